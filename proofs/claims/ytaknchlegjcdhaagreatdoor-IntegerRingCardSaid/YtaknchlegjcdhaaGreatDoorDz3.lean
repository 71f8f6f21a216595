/- Part 3 of 5: walks and laws of the functions of chapter 02 (integers as text), which the last part joins; no condition beyond those of the theorem there. The words of the print (W..) are the kit's, cut down by program to what is used here. -/
import Derived.Test.YtaknchlegjcdhaaGreatDoorProg
import Derived.Below
import Derived.Deep.Draws
import Derived.Deep.AppendLies
import Derived.Maps.AppendAt
import Derived.OwnWalk
import Derived.Laws.BytesArg
import Derived.Laws.MakeOwn
import Derived.Laws.OwnMore
import Derived.Deep.OwnRows
import Derived.Tactics
import Derived.Lib.ConvBytes
import Derived.Laws.Slices
import Derived.WalkKit
import Derived.KernelRfl
import Derived.RowKit3
import Derived.Deep.LoopGhost
import Derived.Deep.QuietTactic
import Derived.BigQuiet
import Derived.WideLaws
import Derived.Deep.DeepCutAuto
import Derived.Deep.CutBlock
import Derived.Deep.RegionHeld3
import Derived.Laws.Rows
import Derived.Lib.AppendStr
import Derived.ArgAppend
import Derived.Laws.IdiomCopy
import Derived.OrdersHeld
import Derived.Laws.BitsLemmas
import Derived.RowKit
import Derived.Shelf.Strings.Builder1
import Derived.Shelf.Strings.Builder2
import Derived.Shelf.Small.Wraps
import Derived.Shelf.Strings.BuilderF
import Derived.Shelf.Strings.BuilderK
import Derived.Shelf.Strings.Builder2Cap
import Derived.Shelf.Strconv.Itoa0
import Derived.Shelf.Strconv.Itoa1
import Derived.Shelf.LaysM
import Derived.Shelf.Strconv.Itoa2
import Derived.Shelf.Strconv.Itoa3
import Derived.Shelf.Strconv.Clone
import Derived.Shelf.Strconv.SyntaxError
import Derived.Shelf.Strconv.Lower
import Derived.Shelf.Strconv.ParseUint10
import Derived.Shelf.Strconv.ParseUint10Empty
import Derived.Shelf.Strconv.RangeError
import Derived.Shelf.Strconv.ParseUintEmpty
import Derived.Shelf.Strconv.ParseUint10b64
import Derived.Shelf.Strconv.ParseUint10b32
import Derived.Shelf.Strconv.ParseUint10b16
import Derived.Shelf.Strconv.ParseUint10b8
import Derived.Ground.MpProg
import Derived.Shelf.Pu.ParseUintPublic10
import Derived.Shelf.Strings.Prefix
import Derived.Shelf.Bits.Mul64
import Derived.Shelf.Strings.Repeat
import Derived.Ground.Names2Prog
import Derived.Shelf.Slices.SearchI
import Derived.Lib.AtoiErrMem
import Derived.Lib.ItoaNum
import Derived.Lib.ParseIntB
import Derived.RangeFuncFrom
import Derived.RangeFuncBox
import Derived.RangeFuncLeaves
import Derived.RangeFuncCalls
import Derived.RangeFuncBound
import Derived.Shelf.Abstract
import Derived.OwnWalkIn
import Derived.TacticsInMore
import Derived.LoopNIn
import Derived.LoopIn
import Derived.Lib.Hide
import Derived.Lib.FrozenHead
import Derived.Lib.Walk
import Derived.Lib.ItoaMem
import Derived.BigCall
import Derived.BigGuard
import Derived.Test.YtaknchlegjcdhaaGreatDoorDz2
namespace Go.Proofs.YtaknchlegjcdhaaGreatDoor.Pr
open Go.RowKit Go.Proofs.YtaknchlegjcdhaaGreatDoorW.PrintWords Go.Proofs.YtaknchlegjcdhaaGreatDoorW.PrintLast Go.Proofs.YtaknchlegjcdhaaGreatDoorW.PrintMore
attribute [local go_sem] max2_int min2_int max_two min_two max_three min_three max_four min_four
set_option maxHeartbeats 8000000
set_option maxRecDepth 100000
set_option linter.unusedVariables false
set_option linter.unusedSimpArgs false
def natural_num_plus.f (l0:List Int) (l1:List Int):Option (List Int):=(natural_num.f l0 l1 1).bind fun t948=>(some t948)
theorem natural_num_plus.calls (A0:Option Addr) (c0:Nat) (l0:List Int) (A1:Option Addr) (c1:Nat) (l1:List Int) (r:List Int) (w:World) (hr0:Kd.C (Kd.int .u32) w A0 l0.length l0) (hc0:l0.length≤c0) (hr1:Kd.C (Kd.int .u32) w A1 l1.length l1) (hc1:l1.length≤c1) (h:natural_num_plus.f l0 l1 = some r) :
  Calls Tryz.prog 109 #[.slice A0 l0.length c0,.slice A1 l1.length c1] w fun e w'=>∃ v0_:Value,e = .returned (v0_)∧Kd.R (Kd.int .u32) 95 w' w.heap.size (fun _=>True) v0_ r∧Below w.heap.size w w':=by
 have HR0:=Aside0.mk hr0
 have HC0:=Aside0.mk hc0
 clear hr0 hc0
 have HR1:=Aside0.mk hr1
 have HC1:=Aside0.mk hc1
 clear hr1 hc1
 have HB:=Aside0.mk (Below.refl w.heap.size w)
 have H:((natural_num.f l0 l1 1).bind fun t948=>(some t948)) = some r:=h
 clear h
 obtain ⟨t948,A3,H⟩:=bn_ H
 obtain rfl:=Option.some.inj H
 go_enter Tryz.func109,Tryz.ntmps109
 go_wp2_with (first|((with_reducible refine gate_callee (f:=129) rfl ?_);refine gm_ (some 7) Tryz.func129 #[.slice A0 l0.length c0,.slice A1 l1.length c1,.int .i64 1] ?_;(with_reducible refine (natural_num.calls _ _ l0 _ _ l1 1 t948 _ ?side1 ?side2 ?side3 ?side4 A3.out).mono ?_);(case side1=>exact cx_ HR0.out);(case side2=>exact HC0.out);(case side3=>exact cx_ HR1.out);(case side4=>exact HC1.out);rintro e w4 ⟨v949,rfl,ho0,hb⟩;refine ⟨_,rfl,?_⟩;have HO950:=Aside0.mk (Kd.R_lower ho0 (below_size bx_));replace HB:=bs_ hb;(try clear hb);(try clear ho0)))
 go_ret
 exact ⟨_,rf_,by (with_reducible repeat (first|apply Kd.R_alloc|apply Kd.R_drewN|apply Kd.R_drew));exact HO950.out,bx_⟩
end Go.Proofs.YtaknchlegjcdhaaGreatDoor.Pr
namespace Go.Proofs.YtaknchlegjcdhaaGreatDoor.Pr
open Go.RowKit Go.Proofs.YtaknchlegjcdhaaGreatDoorW.PrintWords Go.Proofs.YtaknchlegjcdhaaGreatDoorW.PrintLast Go.Proofs.YtaknchlegjcdhaaGreatDoorW.PrintMore
attribute [local go_sem] max2_int min2_int max_two min_two max_three min_three max_four min_four
set_option maxHeartbeats 8000000
set_option maxRecDepth 100000
set_option linter.unusedVariables false
set_option linter.unusedSimpArgs false
def natural_num_minus.f (k:Nat) (l0:List Int) (l1:List Int):Option (List Int):=(natural_num.f l0 l1 (-1)).bind fun t929=>((natural_num_trim.f k t929).bind fun t932=>(some t932))
theorem natural_num_minus.calls (k:Nat) (A0:Option Addr) (c0:Nat) (l0:List Int) (A1:Option Addr) (c1:Nat) (l1:List Int) (r:List Int) (w:World) (hr0:Kd.C (Kd.int .u32) w A0 l0.length l0) (hc0:l0.length≤c0) (hr1:Kd.C (Kd.int .u32) w A1 l1.length l1) (hc1:l1.length≤c1) (h:natural_num_minus.f k l0 l1 = some r) :
  Calls Tryz.prog 110 #[.slice A0 l0.length c0,.slice A1 l1.length c1] w fun e w'=>∃ v0_:Value,e = .returned (v0_)∧Kd.V (Kd.int .u32) 95 w' w.heap.size (fun k_=>(w.heap.size≤k_)) v0_ r∧Below w.heap.size w w':=by
 have HR0:=Aside0.mk hr0
 have HC0:=Aside0.mk hc0
 clear hr0 hc0
 have HR1:=Aside0.mk hr1
 have HC1:=Aside0.mk hc1
 clear hr1 hc1
 have HB:=Aside0.mk (Below.refl w.heap.size w)
 have H:((natural_num.f l0 l1 (-1)).bind fun t929=>((natural_num_trim.f k t929).bind fun t932=>(some t932))) = some r:=h
 clear h
 obtain ⟨t929,A3,H⟩:=bn_ H
 obtain ⟨t932,A4,H⟩:=bn_ H
 obtain rfl:=Option.some.inj H
 go_enter Tryz.func110,Tryz.ntmps110
 go_wp2_with (first|((with_reducible refine gate_callee (f:=129) rfl ?_);refine gm_ (some 7) Tryz.func129 #[.slice A0 l0.length c0,.slice A1 l1.length c1,.int .i64 (-1)] ?_;(with_reducible refine (natural_num.calls _ _ l0 _ _ l1 (-1) t929 _ ?side1 ?side2 ?side3 ?side4 A3.out).mono ?_);(case side1=>exact cx_ HR0.out);(case side2=>exact HC0.out);(case side3=>exact cx_ HR1.out);(case side4=>exact HC1.out);rintro e w5 ⟨v930,rfl,ho0,hb⟩;refine ⟨_,rfl,?_⟩;have HO931:=Aside0.mk (Kd.R_lower (Kd.R_newM (M:=fun k_=>(w.heap.size≤k_)) ho0 (below_size bx_) (fun k_ h_=>h_)) (below_size bx_));replace HB:=bs_ hb;(try clear hb);(try clear ho0);obtain ⟨Ao6,co6,eo6⟩:=Kd.R_slice HO931.out;subst eo6)|((with_reducible refine gate_callee (f:=97) rfl ?_);refine gm_ (some 8) Tryz.func97 #[.slice Ao6 t929.length co6] ?_;(with_reducible refine (natural_num_trim.calls k (fun k_=>some k_ = (.slice Ao6 t929.length co6:Value).ownBlock) _ _ t929 t932 _ ?side1 A4.out).mono ?_);(case side1=>exact Kd.R_V (Kd.R_tight rfl (HO931.out)));rintro e w7 ⟨v933,rfl,ho0,hb⟩;refine ⟨_,rfl,?_⟩;have HO934:=Aside0.mk (Kd.V_lower (Kd.V_mono (ok':=fun k_=>(w.heap.size≤k_)) ho0 (fun k_ hk_=>Or.elim hk_ (fun hs_=>((HO931.out).1 k_ hs_.symm).1) (fun hn_=>(Nat.le_trans (below_size bx_) hn_)))) (below_size bx_));replace HO931:=rb_ HO931 hb;replace HB:=bs_ hb;(try clear hb);(try clear ho0)))
 go_ret
 exact ⟨_,rf_,by (with_reducible repeat (first|apply Kd.V_alloc|apply Kd.V_drewN|apply Kd.V_drew));exact HO934.out,bx_⟩
end Go.Proofs.YtaknchlegjcdhaaGreatDoor.Pr
set_option linter.unusedVariables false
set_option linter.unusedSimpArgs false
namespace Go.Proofs.YtaknchlegjcdhaaGreatDoor.Pr
open Go.RowKit Go.Proofs.YtaknchlegjcdhaaGreatDoorW.PrintWords Go.Proofs.YtaknchlegjcdhaaGreatDoorW.PrintLast Go.Proofs.YtaknchlegjcdhaaGreatDoorW.PrintMore Go.Proofs.YtaknchlegjcdhaaGreatDoor.NatTh
theorem tmod_up (x:Int):(Int.tmod x 1000000000 < 0→Int.tmod x 1000000000 + 1000000000 = x % 1000000000∧Int.tdiv x 1000000000 - 1 = x / 1000000000)∧(¬ Int.tmod x 1000000000 < 0→Int.tmod x 1000000000 = x % 1000000000∧Int.tdiv x 1000000000 = x / 1000000000):=by
 by_cases h:0≤x
 ·rw [Int.tmod_eq_emod_of_nonneg h,Int.tdiv_eq_ediv_of_nonneg h]
  omega
 ·obtain ⟨y,rfl⟩:∃ y:Int,x = -y:=⟨-x,by omega⟩
  rw [Int.neg_tmod,Int.neg_tdiv,Int.tmod_eq_emod_of_nonneg (by omega),Int.tdiv_eq_ediv_of_nonneg (by omega)]
  omega
theorem rd_out (l:List Int) (n:Nat) (h:¬ n < l.length):l.getD n 0 = 0:=by
 rw [List.getD_eq_getElem?_getD,List.getElem?_eq_none (by omega)]
 rfl
structure MrgI (a b:List Int) (s:Int) (out:List Int) (n:Nat) (C:Int):Prop where
 wd:Wd out
 len:out.length = n
 lo:-1≤C
 hi:C≤1
 eq:val out + B ^ n * C = val (a.take n) + s * val (b.take n)
theorem MrgI.step {a b out:List Int} {s C:Int} {n:Nat} (h:MrgI a b s out n C) (ha:Wd a) (hb:Wd b) (hs:s = 1 ∨ s = -1) :
  MrgI a b s (out ++ [(C + a.getD n 0 + s * b.getD n 0) % 1000000000]) (n + 1) ((C + a.getD n 0 + s * b.getD n 0) / 1000000000):=by
 have h1:=ha.getD n
 have h2:=hb.getD n
 have hl:=h.lo
 have hh:=h.hi
 have e:=h.eq
 have el:=h.len
 rw [BB] at h1 h2
 refine ⟨h.wd.append (Wd.cons ⟨by omega,by rw [BB];omega⟩ Wd.nil),by rw [List.length_append,el];rfl,?_,?_,?_⟩
 ·rcases hs with rfl|rfl<;>omega
 ·rcases hs with rfl|rfl<;>omega
 ·rw [val_snoc,el,val_take_more,val_take_more,Bpow_succ]
  generalize val out = X at *
  generalize val (a.take n) = Y at *
  generalize val (b.take n) = Z at *
  generalize B ^ n = P at *
  generalize a.getD n 0 = u at *
  generalize b.getD n 0 = v at *
  have hm:=Int.mul_ediv_add_emod (C + u + s * v) 1000000000
  generalize (C + u + s * v) / 1000000000 = q at *
  generalize (C + u + s * v) % 1000000000 = r at *
  rw [BB]
  have hr:r = C + u + s * v - 1000000000 * q:=by omega
  rw [hr]
  grind
theorem mrg_pick {α:Type} (y:Int) (hy:-2000000000≤y∧y≤2000000000) (F:Int→Int→Option α) (r:α) (h:F (y % 1000000000) (y / 1000000000) = some r) :
  (if Int.tmod y 1000000000 < 0 then F ((wrap64 ((Int.tmod y 1000000000) + 1000000000)) % 4294967296) (wrap64 ((wrap64 (Int.tdiv y 1000000000)) - 1)) else F ((Int.tmod y 1000000000) % 4294967296) (wrap64 (Int.tdiv y 1000000000))) = some r:=by
 obtain ⟨t1,t2⟩:=tmod_up y
 by_cases hneg:Int.tmod y 1000000000 < 0
 ·obtain ⟨t3,t4⟩:=t1 hneg
  rw [if_pos hneg,t3,w64 (x:=y % 1000000000) (by omega) (by omega),Int.emod_eq_of_lt (b:=4294967296) (by omega) (by omega),w64 (x:=Int.tdiv y 1000000000) (by omega) (by omega),t4,w64 (by omega) (by omega)]
  exact h
 ·obtain ⟨t3,t4⟩:=t2 hneg
  rw [if_neg hneg,t3,Int.emod_eq_of_lt (b:=4294967296) (by omega) (by omega),t4,w64 (by omega) (by omega)]
  exact h
theorem sgn_b {s v:Int} (hs:s = 1 ∨ s = -1) (h0:0≤v) (h1:v < 1000000000):-1000000000 < s * v∧s * v < 1000000000:=by rcases hs with rfl|rfl<;>omega
theorem merge_j (a b out:List Int) (s C x:Int) (N n k:Nat) (r:List Int) (hn:n < 1099511627776) (hol:out.length < 35184372088832) (hb:Wd b) (hs:s = 1 ∨ s = -1) (hx:-1≤x) (hx2:x≤1000000000)
  (h:Pm.natural_num.l0 k a b s (out ++ [(x + s * b.getD n 0) % 1000000000]) ((x + s * b.getD n 0) / 1000000000) N ((n + 1:Nat):Int) = some r):Pm.natural_num.j1 (k + 1) a b s out x n N n = some r:=by
 have h2:=hb.getD n
 rw [BB] at h2
 have hsb:=sgn_b hs h2.1 h2.2
 have g0:(0:Int)≤(n:Int):=by omega
 have hnn:n < 9223372036854775807:=by omega
 rw [← wi1 n hnn] at h
 have fin:∀ y:Int,y = x + s * b.getD n 0→(if Int.tmod y 1000000000 < 0 then (if out.length < 35184372088832 then Pm.natural_num.l0 k a b s (out ++ [(wrap64 ((Int.tmod y 1000000000) + 1000000000)) % 4294967296]) (wrap64 ((wrap64 (Int.tdiv y 1000000000)) - 1)) N (wrap64 ((n:Int) + 1)) else none)
     else (if out.length < 35184372088832 then Pm.natural_num.l0 k a b s (out ++ [(Int.tmod y 1000000000) % 4294967296]) (wrap64 (Int.tdiv y 1000000000)) N (wrap64 ((n:Int) + 1)) else none)) = some r:=by
  intro y hy
  refine mrg_pick y ?_ (fun d c=>if out.length < 35184372088832 then Pm.natural_num.l0 k a b s (out ++ [d]) c N (wrap64 ((n:Int) + 1)) else none) r ?_
  ·clear h
   generalize s * b.getD n 0 = z at *
   omega
  ·show (if out.length < 35184372088832 then _ else none) = _
   rw [if_pos hol,hy]
   exact h
 clear h
 unfold Pm.natural_num.j1
 by_cases hb1:n < b.length
 ·have hw2:wrap64 (s * wrap64 (b.getD n 0)) = s * b.getD n 0:=by
   clear fin
   rw [w64 (x:=b.getD n 0) (by omega) (by omega)]
   exact w64 (by omega) (by omega)
  rw [if_pos (by clear fin hw2;omega),if_pos g0,rd_eq,hw2,w64 (x:=x + s * b.getD n 0) (by clear fin hw2;omega) (by clear fin hw2;omega)]
  exact fin _ rfl
 ·rw [if_neg (by clear fin;omega)]
  exact fin _ (by rw [rd_out b n hb1,Int.mul_zero,Int.add_zero])
theorem merge_loop (a b:List Int) (s:Int) (ha:Wd a) (hb:Wd b) (hs:s = 1 ∨ s = -1) (N:Nat) (hN:N≤1099511627776):∀ (m n:Nat),n + m = N→∀ (out:List Int) (C:Int),MrgI a b s out n C →
  ∃ out' C',MrgI a b s out' N C'∧∀ k,2 * m + 1≤k→Pm.natural_num.l0 k a b s out C N n = some (if C' > 0 then out' ++ [C'] else out'):=by
 intro m
 induction m with
 | zero =>
  intro n hn out C h
  obtain rfl:n = N:=by omega
  refine ⟨out,C,h,fun k hk=>?_⟩
  obtain ⟨k,rfl⟩:∃ j,k = j + 1:=⟨k - 1,by omega⟩
  have hl:=h.len
  have hh:=h.hi
  unfold Pm.natural_num.l0
  rw [if_neg (by omega)]
  by_cases hC:C > 0
  ·rw [if_pos hC,if_pos (by omega),if_pos hC,Int.emod_eq_of_lt (by omega) (by omega)]
  ·rw [if_neg hC,if_neg hC]
 | succ m ih =>
  intro n hn out C h
  have hst:=h.step ha hb hs
  obtain ⟨out',C',h',e⟩:=ih (n + 1) (by omega) _ _ hst
  refine ⟨out',C',h',fun k hk=>?_⟩
  obtain ⟨k,rfl⟩:∃ j,k = j + 2:=⟨k - 2,by omega⟩
  have h1:=ha.getD n
  have hl:=h.lo
  have hh:=h.hi
  have el:=h.len
  rw [BB] at h1
  have key:∀ x:Int,x = C + a.getD n 0→Pm.natural_num.j1 (k + 1) a b s out x n N n = some (if C' > 0 then out' ++ [C'] else out'):=by
   intro x hx
   refine merge_j a b out s C x N n k _ (by omega) (by omega) hb hs (by omega) (by omega) ?_
   rw [hx]
   exact e k (by omega)
  clear e hst h'
  unfold Pm.natural_num.l0
  rw [if_pos (by omega)]
  by_cases ha1:n < a.length
  ·rw [if_pos (by omega),if_pos (by omega),rd_eq,w64 (x:=a.getD n 0) (by omega) (by omega),w64 (by omega) (by omega)]
   exact key _ rfl
  ·rw [if_neg (by omega)]
   exact key _ (by rw [rd_out a n ha1];omega)
theorem mrg_start (a b:List Int) (s:Int):MrgI a b s [] 0 0:=⟨Wd.nil,rfl,by omega,by omega,by simp [val]⟩
theorem mx_nat (x y:Nat):mx (x:Int) (y:Int) = ((max x y:Nat):Int):=by
 unfold mx
 split<;>omega
theorem merge_is (a b:List Int) (s:Int) (ha:Wd a) (hb:Wd b) (hs:s = 1 ∨ s = -1) (hla:a.length≤1099511627776) (hlb:b.length≤1099511627776) :
  ∃ out C,Wd out∧out.length = max a.length b.length∧-1≤C∧C≤1∧val out + B ^ (max a.length b.length) * C = val a + s * val b∧natural_num.f a b s = some (if C > 0 then out ++ [C] else out):=by
 obtain ⟨out,C,h,e⟩:=merge_loop a b s ha hb hs (max a.length b.length) (by omega) (max a.length b.length) 0 (by omega) [] 0 (mrg_start a b s)
 refine ⟨out,C,h.wd,h.len,h.lo,h.hi,?_,?_⟩
 ·rw [h.eq,List.take_of_length_le (by omega),List.take_of_length_le (by omega)]
 ·unfold natural_num.f Pm.natural_num.f
  rw [if_pos hla,if_pos (by decide),mx_nat]
  exact e _ (by omega)
theorem plus_eq (a b:Nat) (ha:Ok (numOf a)) (hb:Ok (numOf b)):natural_num_plus.f (numOf a) (numOf b) = some (numOf (a + b)):=by
 unfold Ok at ha hb
 obtain ⟨out,C,hw,hl,hlo,hhi,e,hf⟩:=merge_is (numOf a) (numOf b) 1 (num_numOf a).1 (num_numOf b).1 (.inl rfl) ha hb
 rw [val_numOf,val_numOf,Int.one_mul] at e
 have hv:=val_lt hw
 have hv0:=val_nonneg hw
 rw [hl] at hv
 have hP:=Bpow_pos (max (numOf a).length (numOf b).length)
 have hC0:0≤C:=by
  by_cases h:0≤C
  ·exact h
  ·obtain rfl:C = -1:=by omega
   omega
 have key:(if C > 0 then out ++ [C] else out) = numOf (a + b):=by
  by_cases hC:C > 0
  ·rw [if_pos hC]
   refine num_is ⟨hw.append (Wd.cons ⟨by omega,by rw [BB];omega⟩ Wd.nil),fun w hw'=>?_⟩ ?_
   ·simp at hw'
    omega
   ·rw [val_snoc,hl]
    omega
  ·rw [if_neg hC]
   obtain rfl:C = 0:=by omega
   refine num_is ⟨hw,fun w hw'=>?_⟩ (by omega)
   rintro rfl
   have hne:out≠[]:=fun h0=>by rw [h0] at hw';simp at hw'
   obtain ⟨c,rfl⟩:∃ c,out = c ++ [0]:=by
    rcases snoc_cases out with rfl|⟨c,z,rfl⟩
    ·exact absurd rfl hne
    ·refine ⟨c,?_⟩
     simp at hw'
     rw [hw']
   have hcv:=val_lt (l:=c) (fun x hx=>hw x (by simp [hx]))
   rw [val_snoc,Int.mul_zero,Int.add_zero] at e
   rw [List.length_append] at hl
   simp only [List.length_cons,List.length_nil] at hl
   have h3:∀ x:Nat,(numOf x).length = c.length + 1→(x:Int)≤a + b→False:=fun x hx hle=>by
    have h4:=(num_numOf x).ge (by intro h0;rw [h0] at hx;simp at hx)
    rw [val_numOf,hx,show c.length + 1 - 1 = c.length by omega] at h4
    omega
   by_cases hab:(numOf a).length≤(numOf b).length
   ·exact h3 b (by omega) (by omega)
   ·exact h3 a (by omega) (by omega)
 unfold natural_num_plus.f
 rw [hf,key]
 rfl
theorem minus_ev (a b:Nat) (h:b≤a) (ha:Ok (numOf a)) (hb:Ok (numOf b)):Ev (fun k=>natural_num_minus.f k (numOf a) (numOf b)) (numOf (a - b)):=by
 unfold Ok at ha hb
 obtain ⟨out,C,hw,hl,hlo,hhi,e,hf⟩:=merge_is (numOf a) (numOf b) (-1) (num_numOf a).1 (num_numOf b).1 (.inr rfl) ha hb
 rw [val_numOf,val_numOf] at e
 have hv:=val_lt hw
 have hv0:=val_nonneg hw
 rw [hl] at hv
 have hP:=Bpow_pos (max (numOf a).length (numOf b).length)
 have hlt:(a:Int) < B ^ (max (numOf a).length (numOf b).length):=by
  have h1:=lt_len a
  have h2:=Bpow_le (show (numOf a).length≤max (numOf a).length (numOf b).length by omega)
  omega
 have hC0:C = 0:=by
  by_cases h1:C = 1
  ·subst h1
   omega
  ·by_cases h2:C = -1
   ·subst h2
    omega
   ·omega
 subst hC0
 rw [if_neg (by omega)] at hf
 have ht:=trim_ev (l:=out) (by omega)
 rw [trim_numOf (n:=a - b) hw (by omega)] at ht
 refine Ev.congr (f:=fun k=>(natural_num_trim.f k out).bind fun t=>some t) (fun k=>?_) (Ev.bind ht (Ev.now _))
 unfold natural_num_minus.f
 rw [hf]
 rfl
end Go.Proofs.YtaknchlegjcdhaaGreatDoor.Pr
namespace Go.Proofs.YtaknchlegjcdhaaGreatDoor.Pr
open Go.RowKit Go.Proofs.YtaknchlegjcdhaaGreatDoorW.PrintWords Go.Proofs.YtaknchlegjcdhaaGreatDoorW.PrintLast Go.Proofs.YtaknchlegjcdhaaGreatDoorW.PrintMore
attribute [local go_sem] max2_int min2_int max_two min_two max_three min_three max_four min_four
set_option maxHeartbeats 8000000
set_option maxRecDepth 100000
set_option linter.unusedVariables false
set_option linter.unusedSimpArgs false
mutual
def garboardref01_Plus.l0:Nat→List Int→List Int→List Int→Int→Int→Option (List Int)
 | 0,_,_,_,_,_=>none
 | k + 1,x0,x1,x5,x6,x7=>if x7 < (x0.length:Int) then (garboardref01_Plus.j1 k x0 x1 x5 x6 x7 true) else (if x7 < (x1.length:Int) then (garboardref01_Plus.j1 k x0 x1 x5 x6 x7 true) else (garboardref01_Plus.j1 k x0 x1 x5 x6 x7 (decide (x6 > 0))))
def garboardref01_Plus.j1:Nat→List Int→List Int→List Int→Int→Int→Bool→Option (List Int)
 | 0,_,_,_,_,_,_=>none
 | k + 1,x0,x1,x5,x6,x7,x22=>if x22 = true then (if x7 < (x0.length:Int) then (if 0≤x7 then (if x7 < (x1.length:Int) then (if x5.length < 35184372088832 then (garboardref01_Plus.l0 k x0 x1 (x5 ++ [((((x6 + (rd x0 x7)) % 4294967296) + (rd x1 x7)) % 4294967296) % 1000000000]) (((((x6 + (rd x0 x7)) % 4294967296) + (rd x1 x7)) % 4294967296) / 1000000000) (wrap64 (x7 + 1))) else (none)) else (if x5.length < 35184372088832 then (garboardref01_Plus.l0 k x0 x1 (x5 ++ [((x6 + (rd x0 x7)) % 4294967296) % 1000000000]) (((x6 + (rd x0 x7)) % 4294967296) / 1000000000) (wrap64 (x7 + 1))) else (none))) else (none)) else (if x7 < (x1.length:Int) then (if 0≤x7 then (if x5.length < 35184372088832 then (garboardref01_Plus.l0 k x0 x1 (x5 ++ [((x6 + (rd x1 x7)) % 4294967296) % 1000000000]) (((x6 + (rd x1 x7)) % 4294967296) / 1000000000) (wrap64 (x7 + 1))) else (none)) else (none)) else (if x5.length < 35184372088832 then (garboardref01_Plus.l0 k x0 x1 (x5 ++ [Int.tmod x6 1000000000]) ((Int.tdiv x6 1000000000) % 4294967296) (wrap64 (x7 + 1))) else (none)))) else ((garboardref01_trim.f k x5).bind fun t517=>(some t517))
end
def garboardref01_Plus.f (k:Nat) (l0:List Int) (l1:List Int):Option (List Int):=garboardref01_Plus.l0 k l0 l1 ([]:List Int) 0 0
end Go.Proofs.YtaknchlegjcdhaaGreatDoor.Pr
namespace Go.Proofs.YtaknchlegjcdhaaGreatDoor.Pr
open Go.RowKit Go.Proofs.YtaknchlegjcdhaaGreatDoorW.PrintWords Go.Proofs.YtaknchlegjcdhaaGreatDoorW.PrintLast Go.Proofs.YtaknchlegjcdhaaGreatDoorW.PrintMore
attribute [local go_sem] max2_int min2_int max_two min_two max_three min_three max_four min_four
set_option maxHeartbeats 8000000
set_option maxRecDepth 100000
set_option linter.unusedVariables false
set_option linter.unusedSimpArgs false
def garboardref01_Minus.l0:Nat→List Int→List Int→List Int→Int→Int→Option (List Int)
 | 0,_,_,_,_,_=>none
 | k + 1,x0,x1,x5,x6,x7=>if x7 < (x0.length:Int) then (if 0≤x7 then (if x7 < (x1.length:Int) then (if (wrap64 ((wrap64 ((wrap64 (rd x0 x7)) - x6)) - (wrap64 (rd x1 x7)))) < 0 then (if x5.length < 35184372088832 then (garboardref01_Minus.l0 k x0 x1 (x5 ++ [(wrap64 ((wrap64 ((wrap64 ((wrap64 (rd x0 x7)) - x6)) - (wrap64 (rd x1 x7)))) + 1000000000)) % 4294967296]) 1 (wrap64 (x7 + 1))) else (none)) else (if x5.length < 35184372088832 then (garboardref01_Minus.l0 k x0 x1 (x5 ++ [(wrap64 ((wrap64 ((wrap64 (rd x0 x7)) - x6)) - (wrap64 (rd x1 x7)))) % 4294967296]) 0 (wrap64 (x7 + 1))) else (none))) else (if (wrap64 ((wrap64 (rd x0 x7)) - x6)) < 0 then (if x5.length < 35184372088832 then (garboardref01_Minus.l0 k x0 x1 (x5 ++ [(wrap64 ((wrap64 ((wrap64 (rd x0 x7)) - x6)) + 1000000000)) % 4294967296]) 1 (wrap64 (x7 + 1))) else (none)) else (if x5.length < 35184372088832 then (garboardref01_Minus.l0 k x0 x1 (x5 ++ [(wrap64 ((wrap64 (rd x0 x7)) - x6)) % 4294967296]) 0 (wrap64 (x7 + 1))) else (none)))) else (none)) else ((garboardref01_trim.f k x5).bind fun t539=>(some t539))
def garboardref01_Minus.f (k:Nat) (l0:List Int) (l1:List Int):Option (List Int):=garboardref01_Minus.l0 k l0 l1 ([]:List Int) 0 0
end Go.Proofs.YtaknchlegjcdhaaGreatDoor.Pr
set_option linter.unusedVariables false
set_option linter.unusedSimpArgs false
namespace Go.Proofs.YtaknchlegjcdhaaGreatDoor.Pr
open Go.RowKit Go.Proofs.YtaknchlegjcdhaaGreatDoorW.PrintWords Go.Proofs.YtaknchlegjcdhaaGreatDoorW.PrintLast Go.Proofs.YtaknchlegjcdhaaGreatDoorW.PrintMore Go.Proofs.YtaknchlegjcdhaaGreatDoor.NatTh
theorem rplus_j (a b out:List Int) (C:Int) (n k:Nat) (r:Option (List Int)) (hn:n < 1099511627776) (hol:out.length < 35184372088832) (ha:Wd a) (hb:Wd b) (hC:0≤C) (hC2:C≤1)
  (h:garboardref01_Plus.l0 k a b (out ++ [(C + a.getD n 0 + b.getD n 0) % 1000000000]) ((C + a.getD n 0 + b.getD n 0) / 1000000000) ((n + 1:Nat):Int) = r):garboardref01_Plus.j1 (k + 1) a b out C n true = r:=by
 have h1:=ha.getD n
 have h2:=hb.getD n
 rw [BB] at h1 h2
 have g0:(0:Int)≤(n:Int):=by omega
 have hnn:n < 9223372036854775807:=by omega
 rw [← wi1 n hnn] at h
 unfold garboardref01_Plus.j1
 rw [if_pos rfl]
 by_cases ha1:n < a.length
 ·rw [if_pos (by clear h;omega),if_pos g0]
  by_cases hb1:n < b.length
  ·rw [if_pos (by clear h;omega),if_pos hol,rd_eq,rd_eq,Int.emod_eq_of_lt (b:=4294967296) (a:=C + a.getD n 0) (by clear h;omega) (by clear h;omega),Int.emod_eq_of_lt (b:=4294967296) (by clear h;omega) (by clear h;omega)]
   exact h
  ·rw [if_neg (by clear h;omega),if_pos hol,rd_eq,Int.emod_eq_of_lt (b:=4294967296) (by clear h;omega) (by clear h;omega)]
   rw [rd_out b n hb1,Int.add_zero] at h
   exact h
 ·rw [if_neg (by clear h;omega)]
  by_cases hb1:n < b.length
  ·rw [if_pos (by clear h;omega),if_pos g0,if_pos hol,rd_eq,Int.emod_eq_of_lt (b:=4294967296) (by clear h;omega) (by clear h;omega)]
   rw [rd_out a n ha1,Int.add_zero] at h
   exact h
  ·rw [if_neg (by clear h;omega),if_pos hol,Int.tmod_eq_emod_of_nonneg hC,Int.tdiv_eq_ediv_of_nonneg hC,Int.emod_eq_of_lt (a:=C / 1000000000) (b:=4294967296) (by clear h;omega) (by clear h;omega)]
   rw [rd_out a n ha1,rd_out b n hb1,Int.add_zero,Int.add_zero] at h
   exact h
theorem rplus_end (a b out:List Int) (n k:Nat) (hna:a.length≤n) (hnb:b.length≤n):garboardref01_Plus.l0 (k + 2) a b out 0 n = ((garboardref01_trim.f k out).bind fun t=>some t):=by
 unfold garboardref01_Plus.l0
 rw [if_neg (by omega),if_neg (by omega),show decide ((0:Int) > 0) = false from rfl]
 unfold garboardref01_Plus.j1
 rw [if_neg (by simp)]
theorem rplus_loop (a b:List Int) (ha:Wd a) (hb:Wd b) (N:Nat) (hN:N = max a.length b.length) (hN2:N < 1099511627776):∀ (m n:Nat),n + m = N→∀ (out:List Int) (C:Int),MrgI a b 1 out n C→0≤C →
  ∃ out' C',MrgI a b 1 out' N C'∧0≤C'∧∀ k,garboardref01_Plus.l0 (k + 4 + 2 * m) a b out C n = (if C' > 0 then ((garboardref01_trim.f k (out' ++ [C'])).bind fun t=>some t) else ((garboardref01_trim.f (k + 2) out').bind fun t=>some t)):=by
 intro m
 induction m with
 | zero =>
  intro n hn out C h hC
  obtain rfl:n = N:=by omega
  refine ⟨out,C,h,hC,fun k=>?_⟩
  have hl:=h.len
  have hh:=h.hi
  by_cases hC1:C > 0
  ·obtain rfl:C = 1:=by omega
   rw [if_pos hC1]
   show garboardref01_Plus.l0 (k + 2 + 1 + 1) a b out 1 n = _
   unfold garboardref01_Plus.l0
   rw [if_neg (by omega),if_neg (by omega),show decide ((1:Int) > 0) = true from rfl]
   refine rplus_j a b out 1 n (k + 2) _ hN2 (by omega) ha hb (by omega) (by omega) ?_
   rw [rd_out a n (by omega),rd_out b n (by omega)]
   exact rplus_end a b _ (n + 1) k (by omega) (by omega)
  ·obtain rfl:C = 0:=by omega
   rw [if_neg hC1]
   exact rplus_end a b out n (k + 2) (by omega) (by omega)
 | succ m ih =>
  intro n hn out C h hC
  have hst:=h.step ha hb (.inl rfl)
  rw [Int.one_mul] at hst
  have h1:=ha.getD n
  have h2:=hb.getD n
  rw [BB] at h1 h2
  have hh:=h.hi
  have el:=h.len
  obtain ⟨out',C',h',hC',e⟩:=ih (n + 1) (by omega) _ _ hst (by omega)
  refine ⟨out',C',h',hC',fun k=>?_⟩
  have hj:=rplus_j a b out C n (k + 4 + 2 * m) _ (by omega) (by omega) ha hb hC hh (e k)
  rw [show k + 4 + 2 * (m + 1) = k + 4 + 2 * m + 1 + 1 by omega]
  clear e hst h'
  unfold garboardref01_Plus.l0
  by_cases ha1:n < a.length
  ·rw [if_pos (by clear hj;omega)]
   exact hj
  ·rw [if_neg (by clear hj;omega),if_pos (by clear hj;omega)]
   exact hj
theorem Plus_ev (a b:Nat) (ha:Ok (numOf a)) (hb:Ok (numOf b)) (hs:max (numOf a).length (numOf b).length < 1099511627776):Ev (fun k=>garboardref01_Plus.f k (numOf a) (numOf b)) (numOf (a + b)):=by
 obtain ⟨out,C,h,hC,e⟩:=rplus_loop (numOf a) (numOf b) (num_numOf a).1 (num_numOf b).1 (max (numOf a).length (numOf b).length) rfl hs (max (numOf a).length (numOf b).length) 0 (by omega) [] 0 (mrg_start _ _ _) (by omega)
 have ev:=h.eq
 rw [List.take_of_length_le (by omega),List.take_of_length_le (by omega),val_numOf,val_numOf,Int.one_mul] at ev
 have hl:=h.len
 have hh:=h.hi
 have key:Ev (fun k=>(if C > 0 then ((garboardref01_trim.f k (out ++ [C])).bind fun t=>some t) else ((garboardref01_trim.f (k + 2) out).bind fun t=>some t))) (numOf (a + b)):=by
  by_cases hC1:C > 0
  ·have ht:=rtrim_ev (l:=out ++ [C]) (by rw [List.length_append,hl];simp;omega)
   rw [trim_numOf (n:=a + b) (h.wd.append (Wd.cons ⟨hC,by rw [BB];omega⟩ Wd.nil)) (by rw [val_snoc,hl];omega)] at ht
   refine Ev.congr (fun k=>if_pos hC1) (Ev.bind ht (Ev.now _))
  ·obtain rfl:C = 0:=by omega
   have ht:=rtrim_ev (l:=out) (by omega)
   rw [trim_numOf (n:=a + b) h.wd (by omega)] at ht
   obtain ⟨K,ht⟩:=ht
   refine ⟨K,fun k hk=>?_⟩
   dsimp only
   have h2:=ht (k + 2) (by omega)
   dsimp only at h2
   rw [if_neg hC1,h2]
   rfl
 obtain ⟨K,key⟩:=key
 refine ⟨K + 4 + 2 * max (numOf a).length (numOf b).length,fun k hk=>?_⟩
 obtain ⟨j,rfl⟩:∃ j,k = j + 4 + 2 * max (numOf a).length (numOf b).length:=⟨k - 4 - 2 * max (numOf a).length (numOf b).length,by omega⟩
 unfold garboardref01_Plus.f
 exact (e j).trans (key j (by omega))
theorem rminus_pick {α:Type} (x:Int) (hx:-1000000001≤x∧x < 1000000000) (F:Int→Int→Option α) (r:Option α) (h:F (x % 1000000000) (-(x / 1000000000)) = r) (h0:-1000000000≤x) :
  (if x < 0 then F ((wrap64 (x + 1000000000)) % 4294967296) 1 else F (x % 4294967296) 0) = r:=by
 by_cases hneg:x < 0
 ·rw [if_pos hneg,w64 (by omega) (by omega),Int.emod_eq_of_lt (b:=4294967296) (by omega) (by omega)]
  rw [show x % 1000000000 = x + 1000000000 by omega,show -(x / 1000000000) = 1 by omega] at h
  exact h
 ·rw [if_neg hneg,Int.emod_eq_of_lt (b:=4294967296) (by omega) (by omega)]
  rw [show x % 1000000000 = x by omega,show -(x / 1000000000) = 0 by omega] at h
  exact h
theorem rminus_loop (a b:List Int) (ha:Wd a) (hb:Wd b) (hab:b.length≤a.length) (hN2:a.length < 1099511627776):∀ (m n:Nat),n + m = a.length→∀ (out:List Int) (C:Int),MrgI a b (-1) out n (-C)→0≤C →
  ∃ out' C',MrgI a b (-1) out' a.length C'∧∀ k,garboardref01_Minus.l0 (k + 1 + m) a b out C n = ((garboardref01_trim.f k out').bind fun t=>some t):=by
 intro m
 induction m with
 | zero =>
  intro n hn out C h hC
  obtain rfl:n = a.length:=by omega
  refine ⟨out,-C,h,fun k=>?_⟩
  show garboardref01_Minus.l0 (k + 1) a b out C a.length = _
  unfold garboardref01_Minus.l0
  rw [if_neg (by omega)]
 | succ m ih =>
  intro n hn out C h hC
  have hst:=h.step ha hb (.inr rfl)
  have h1:=ha.getD n
  have h2:=hb.getD n
  rw [BB] at h1 h2
  have hl:=h.lo
  have el:=h.len
  have hx:-C + a.getD n 0 + -1 * b.getD n 0 = a.getD n 0 - C - b.getD n 0:=by omega
  rw [hx] at hst
  obtain ⟨out',C',h',e⟩:=ih (n + 1) (by omega) _ (-((a.getD n 0 - C - b.getD n 0) / 1000000000)) (by rw [Int.neg_neg];exact hst) (by omega)
  refine ⟨out',C',h',fun k=>?_⟩
  have he:=e k
  have hnn:n < 9223372036854775807:=by omega
  rw [← wi1 n hnn] at he
  have hol:out.length < 35184372088832:=by omega
  have fin:∀ x:Int,x = a.getD n 0 - C - b.getD n 0→(if x < 0 then (if out.length < 35184372088832 then garboardref01_Minus.l0 (k + 1 + m) a b (out ++ [(wrap64 (x + 1000000000)) % 4294967296]) 1 (wrap64 ((n:Int) + 1)) else none) else (if out.length < 35184372088832 then garboardref01_Minus.l0 (k + 1 + m) a b (out ++ [x % 4294967296]) 0 (wrap64 ((n:Int) + 1)) else none)) = ((garboardref01_trim.f k out').bind fun t=>some t):=by
   intro x hxx
   refine rminus_pick x (by clear he;omega) (fun d c=>if out.length < 35184372088832 then garboardref01_Minus.l0 (k + 1 + m) a b (out ++ [d]) c (wrap64 ((n:Int) + 1)) else none) _ ?_ (by clear he;omega)
   show (if out.length < 35184372088832 then _ else none) = _
   rw [if_pos hol,hxx]
   exact he
  clear he e hst h'
  rw [show k + 1 + (m + 1) = k + 1 + m + 1 by omega]
  unfold garboardref01_Minus.l0
  rw [if_pos (by clear fin;omega),if_pos (by clear fin;omega),rd_eq,w64 (x:=a.getD n 0) (by clear fin;omega) (by clear fin;omega),w64 (x:=a.getD n 0 - C) (by clear fin;omega) (by clear fin;omega)]
  by_cases hb1:n < b.length
  ·rw [if_pos (by clear fin;omega),rd_eq,w64 (x:=b.getD n 0) (by clear fin;omega) (by clear fin;omega),w64 (x:=a.getD n 0 - C - b.getD n 0) (by clear fin;omega) (by clear fin;omega)]
   exact fin _ rfl
  ·rw [if_neg (by clear fin;omega)]
   exact fin _ (by rw [rd_out b n hb1,Int.sub_zero])
theorem Minus_ev (a b:Nat) (h:b≤a) (hs:(numOf a).length < 1099511627776):Ev (fun k=>garboardref01_Minus.f k (numOf a) (numOf b)) (numOf (a - b)):=by
 have hlab:=len_mono h
 obtain ⟨out,C,hM,e⟩:=rminus_loop (numOf a) (numOf b) (num_numOf a).1 (num_numOf b).1 hlab hs (numOf a).length 0 (by omega) [] 0 (mrg_start _ _ _) (by omega)
 have ev:=hM.eq
 rw [List.take_of_length_le (by omega),List.take_of_length_le (by omega),val_numOf,val_numOf] at ev
 have hl:=hM.len
 have hv:=val_lt hM.wd
 have hv0:=val_nonneg hM.wd
 rw [hl] at hv
 have hP:=Bpow_pos (numOf a).length
 have hlt:=lt_len a
 have hlo:=hM.lo
 have hhi:=hM.hi
 have hC0:C = 0:=by
  by_cases h1:C = 1
  ·subst h1
   omega
  ·by_cases h2:C = -1
   ·subst h2
    omega
   ·omega
 subst hC0
 have ht:=rtrim_ev (l:=out) (by omega)
 rw [trim_numOf (n:=a - b) hM.wd (by omega)] at ht
 obtain ⟨K,ht⟩:=ht
 refine ⟨K + 1 + (numOf a).length,fun k hk=>?_⟩
 obtain ⟨j,rfl⟩:∃ j,k = j + 1 + (numOf a).length:=⟨k - 1 - (numOf a).length,by omega⟩
 unfold garboardref01_Minus.f
 rw [show ((0:Int)) = ((0:Nat):Int) from rfl]
 refine (e j).trans ?_
 have h2:=ht j (by omega)
 dsimp only at h2
 rw [h2]
 rfl
end Go.Proofs.YtaknchlegjcdhaaGreatDoor.Pr
namespace Go.Proofs.YtaknchlegjcdhaaGreatDoor.Pt
open Go.RowKit Go.Proofs.YtaknchlegjcdhaaGreatDoorW.PrintWords Go.Proofs.YtaknchlegjcdhaaGreatDoorW.PrintLast Go.Proofs.YtaknchlegjcdhaaGreatDoorW.PrintMore
attribute [local go_sem] max2_int min2_int max_two min_two max_three min_three max_four min_four
set_option linter.unusedVariables false
set_option linter.unusedSimpArgs false
def errW:Option Int→Value
 | none=>.nilIface
 | some c=>.iface 152 (.int .i64 c)
theorem errW_none:errW none = .nilIface:=rfl
theorem errW_some (c:Int):errW (some c) = .iface 152 (.int .i64 c):=rfl
theorem info95:(Tryz.prog.info? 95).map (fun i=>(i.zero,i.size,i.bytes)) = some (some (.int .u32 0),1,4):=by kernel_rfl
end Go.Proofs.YtaknchlegjcdhaaGreatDoor.Pt
namespace Go.Proofs.YtaknchlegjcdhaaGreatDoor.Pt
open Go.RowKit Go.Proofs.YtaknchlegjcdhaaGreatDoorW.PrintWords Go.Proofs.YtaknchlegjcdhaaGreatDoorW.PrintLast Go.Proofs.YtaknchlegjcdhaaGreatDoorW.PrintMore
attribute [local go_sem] max2_int min2_int max_two min_two max_three min_three max_four min_four
set_option maxHeartbeats 8000000
set_option maxRecDepth 100000
set_option linter.unusedVariables false
set_option linter.unusedSimpArgs false
def natural_num_trim.l0:Nat→List Int→Option (List Int)
 | 0,_=>none
 | k + 1,x0=>if (x0.length:Int) > 0 then (if 0≤(wrap64 ((x0.length:Int) - 1)) then (if (wrap64 ((x0.length:Int) - 1)) < (x0.length:Int) then (if (rd x0 (wrap64 ((x0.length:Int) - 1))) = 0 then (if (wrap64 ((x0.length:Int) - 1))≤(x0.length:Int) then (natural_num_trim.l0 k (x0.take ((wrap64 ((x0.length:Int) - 1)):Int).toNat)) else (none)) else (some x0)) else (none)) else (none)) else (some x0)
def natural_num_trim.f (k:Nat) (l0:List Int):Option (List Int):=natural_num_trim.l0 k l0
theorem natural_num_trim.calls (k:Nat) (P0_:Nat→Prop) (A0:Option Addr) (c0:Nat) (l0:List Int) (r:List Int) (w:World) (hs0:Kd.V (Kd.int .u32) 95 w w.heap.size (fun k_=>P0_ k_) (.slice A0 l0.length c0) l0) (h:natural_num_trim.f k l0 = some r) :
  Calls Tryz.prog 97 #[.slice A0 l0.length c0] w fun e w'=>∃ v0_:Value,e = .returned (v0_)∧Kd.V (Kd.int .u32) 95 w' w.heap.size (fun k_=>(P0_ k_ ∨ w.heap.size≤k_)) v0_ r∧Below w.heap.size w w':=by
 have HO0:=Aside0.mk (show Kd.V (Kd.int .u32) 95 w w.heap.size (fun k_=>(P0_ k_ ∨ w.heap.size≤k_)) (.slice A0 l0.length c0) l0 from Kd.V_mono hs0 (fun k_ hk=>.inl hk))
 have HB:=Aside0.mk (Below.refl w.heap.size w)
 have H:(natural_num_trim.l0 k l0) = some r:=h
 clear h
 have H':=Aside0.mk H
 clear H
 go_enter Tryz.func97,Tryz.ntmps97
 go_wp2
 go_loopg [0] k (fun kq v0 w'=>∃ (x0_1:List Int),Aside0 (natural_num_trim.l0 kq x0_1 = some r)∧Aside0 (kq≤k)∧Aside0 (Kd.V (Kd.int .u32) 95 w' w.heap.size (fun k_=>(P0_ k_ ∨ w.heap.size≤k_)) v0 x0_1)∧Aside0 (Below w.heap.size w w'))
 case atStart=>exact ⟨(l0),H',⟨Nat.le_refl _⟩,⟨by (with_reducible repeat (first|apply Kd.V_alloc|apply Kd.V_drewN|apply Kd.V_drew));exact HO0.out⟩,⟨bx_⟩⟩
 case round =>
  clear H'
  obtain ⟨x0_1,HA,HK1,HO_0,HB⟩:=hrel
  cases gk with
  | zero=>exact absurd HA.out (by simp [natural_num_trim.l0])
  | succ k1 =>
   have H:=HA.out
   clear HA
   simp only [natural_num_trim.l0] at H
   by_cases c2:(x0_1.length:Int) > 0
   ·rw [if_pos c2] at H
    have c2b0:decide (0 < (x0_1.length:Int)) = true:=decide_eq_true c2
    have c2b1:decide (0 < x0_1.length) = true:=decide_eq_true (by omega)
    clear c2
    obtain ⟨ji3,hji3⟩:∃ j_:Int,(wrap64 ((x0_1.length:Int) - 1)) = j_:=⟨_,rfl⟩
    replace H:(if 0≤(ji3) then (if (ji3) < (x0_1.length:Int) then (if (rd x0_1 (ji3)) = 0 then (if (ji3)≤(x0_1.length:Int) then (natural_num_trim.l0 k1 (x0_1.take ((ji3):Int).toNat)) else (none)) else (some x0_1)) else (none)) else (none)) = some r:=by first|(rw [hji3] at H;exact H)|(simp only [hji3] at H ⊢;exact H)
    have hji3w:(IntKind.i64.wrap ((x0_1.length:Int) - 1)) = ji3:=(i64_w _).trans hji3
    by_cases c4:0≤(ji3)
    ·rw [if_pos c4] at H
     have c4b0:decide (0≤(ji3)) = true:=decide_eq_true c4
     clear c4
     by_cases c5:(ji3) < (x0_1.length:Int)
     ·rw [if_pos c5] at H
      have c5b0:decide ((ji3) < (x0_1.length:Int)) = true:=decide_eq_true c5
      clear c5
      by_cases c6:(rd x0_1 (ji3)) = 0
      ·rw [if_pos c6] at H
       have c6b0:((rd x0_1 (ji3)) == 0) = true:=beq_iff_eq.mpr c6
       have c6b1:((rd x0_1 (ji3)) != 0) = false:=bne_eq_false_iff_eq.mpr c6
       clear c6
       have c7b0:=eq_true (of_decide_eq_true (by first|(with_reducible assumption)|assumption):0≤(ji3))
       by_cases c8:(ji3)≤(x0_1.length:Int)
       ·rw [if_pos c8] at H
        have c8b0:=eq_true c8
        have c8b1:decide ((ji3)≤(x0_1.length:Int)) = true:=decide_eq_true c8
        clear c8
        obtain ⟨y102,hy102⟩:∃ y_:List Int,y_ = (x0_1.take ((ji3):Int).toNat):=⟨_,rfl⟩
        replace H:(natural_num_trim.l0 k1 y102) = some r:=by first|(rw [hy102];with_reducible exact H)|(have H2_:=(Option.bind_some _ _).symm.trans H;rw [hy102];with_reducible exact H2_)|(have H2_:=(Option.bind_some _ _).symm.trans H;with_reducible exact H2_)|with_reducible exact H|(rw [hy102];exact H)|exact H
        have Ny102:=Aside0.mk hy102
        clear hy102
        have H':=Aside0.mk H
        clear H
        obtain ⟨Ao9,co9,eo9⟩:=Kd.V_slice HO_0.out
        subst eo9
        have p101:0≤((ji3):Int):=da_
        have q101:(ji3) < (x0_1.length:Int):=da_
        obtain ⟨ad101,e101,hx101_0⟩:=Kd.at_int (Kd.V_reads' HO_0.out).2.2 (ji3) p101 q101
        cases e101
        replace p101:=eq_true p101
        replace q101:=eq_true q101
        have q10:((ji3):Int)≤((x0_1.length:Int):Int):=da_
        obtain ⟨i010,hi010,_,hsz10,_⟩:=info_parts info95
        have hroom10:x0_1.length≤co9:=(Kd.V_reads' HO_0.out).2.1
        have hC10:Kd.F (Kd.int .u32) _ _ (some ad101) x0_1.length x0_1:=(Kd.V_at (base:=w.heap.size) HO_0.out).2.2
        have hcut10:=cut_to (P:=Tryz.prog) 74 95 .i64 Tryz.underlying74 hi010 (some ad101) x0_1.length co9 (ji3) (of_decide_eq_true (by first|(with_reducible assumption)|assumption)) q10 hroom10
        have hr10:=Kd.F_take (m:=((ji3):Int).toNat) hC10 (by omega)
        have hy10:y102.length = ((ji3):Int).toNat:=(by rw [Ny102.out,List.length_take];omega)
        rw [← Ny102.out] at hr10
        rw [← hy10] at hcut10
        have HO106:=Aside0.mk (show Kd.V (Kd.int .u32) 95 _ w.heap.size _ (.slice (some ad101) y102.length co9) y102 from Kd.V_mk (by omega) hr10)
        have HC106:=Aside0.mk (show y102.length≤co9 from by omega)
        clear hr10 hC10 hroom10 hi010 hsz10
        have KY10:=Aside0.mk hy10
        clear hy10
        replace q10:=eq_true q10
        go_wp2
        go_roundg k1
        case measure=>have:=HK1.out;omega
        case rel=>exact ⟨(y102),H',⟨by have:=HK1.out;omega⟩,⟨by (with_reducible repeat (first|apply Kd.V_alloc|apply Kd.V_drewN|apply Kd.V_drew));exact HO106.out⟩,⟨bx_⟩⟩
       ·rw [if_neg c8] at H
        exact absurd H sm_
      ·rw [if_neg c6] at H
       have c6b0:((rd x0_1 (ji3)) == 0) = false:=beq_eq_false_iff_ne.mpr c6
       have c6b1:((rd x0_1 (ji3)) != 0) = true:=bne_iff_ne.mpr c6
       obtain rfl:=Option.some.inj H
       obtain ⟨Ao11,co11,eo11⟩:=Kd.V_slice HO_0.out
       subst eo11
       have p101:0≤((ji3):Int):=da_
       have q101:(ji3) < (x0_1.length:Int):=da_
       obtain ⟨ad101,e101,hx101_0⟩:=Kd.at_int (Kd.V_reads' HO_0.out).2.2 (ji3) p101 q101
       cases e101
       replace p101:=eq_true p101
       replace q101:=eq_true q101
       go_wp2
       go_ret
       exact ⟨_,by first|rfl|(simp [errW_none,errW_some]<;>rfl)|(simp only [← hji3];first|rfl|(simp [errW_none,errW_some]<;>rfl))|(simp [*,errW_none,errW_some]<;>rfl),by (with_reducible repeat (first|apply Kd.V_alloc|apply Kd.V_drewN|apply Kd.V_drew));exact HO_0.out,bx_⟩
     ·rw [if_neg c5] at H
      exact absurd H sm_
    ·rw [if_neg c4] at H
     exact absurd H sm_
   ·rw [if_neg c2] at H
    have c2b0:decide (0 < (x0_1.length:Int)) = false:=decide_eq_false c2
    have c2b1:decide (0 < x0_1.length) = false:=decide_eq_false (by omega)
    clear c2
    obtain rfl:=Option.some.inj H
    obtain ⟨Ao12,co12,eo12⟩:=Kd.V_slice HO_0.out
    subst eo12
    go_wp2
    go_ret
    exact ⟨_,rf_,by (with_reducible repeat (first|apply Kd.V_alloc|apply Kd.V_drewN|apply Kd.V_drew));exact HO_0.out,bx_⟩
end Go.Proofs.YtaknchlegjcdhaaGreatDoor.Pt
namespace Go.Proofs
open Go.Shelf
def Tryz.laysPu14_ren:Go.Shelf.Ren:=⟨fun|14=>113|16=>130|17=>131|19=>138|20=>139|21=>140|22=>141|23=>142|24=>143|25=>145|27=>21|26=>146|28=>50|29=>75|30=>105|31=>106|32=>107|33=>108|35=>125|34=>124|36=>126|37=>127|38=>128|39=>136|40=>137|n=>n,fun|9=>9|3=>3|22=>96|24=>116|25=>129|4=>4|34=>152|5=>5|36=>134|37=>108|0=>0|39=>154|21=>21|44=>162|47=>138|50=>166|48=>164|2=>2|52=>121|55=>124|59=>140|60=>95|20=>20|61=>141|65=>158|66=>159|67=>56|n=>n,fun|0=>3|1=>4|2=>0|3=>1|4=>2|n=>n⟩
theorem Tryz.laysPu14:Go.Proofs.LaysPu.n14 Tryz.prog Tryz.laysPu14_ren:={
 mixed:=by kernel_rfl
 f14:=Tryz.func113.trans (congrArg some (by kernel_rfl))
 f16:=Tryz.func130.trans (congrArg some (by kernel_rfl))
 f17:=Tryz.func131.trans (congrArg some (by kernel_rfl))
 f19:=Tryz.func138.trans (congrArg some (by kernel_rfl))
 f20:=Tryz.func139.trans (congrArg some (by kernel_rfl))
 f21:=Tryz.func140.trans (congrArg some (by kernel_rfl))
 f22:=Tryz.func141.trans (congrArg some (by kernel_rfl))
 f23:=Tryz.func142.trans (congrArg some (by kernel_rfl))
 f24:=Tryz.func143.trans (congrArg some (by kernel_rfl))
 f25:=Tryz.func145.trans (congrArg some (by kernel_rfl))
 f26:=Tryz.func146.trans (congrArg some (by kernel_rfl))
 f27:=Tryz.func21.trans (congrArg some (by kernel_rfl))
 f28:=Tryz.func50.trans (congrArg some (by kernel_rfl))
 f29:=Tryz.func75.trans (congrArg some (by kernel_rfl))
 f30:=Tryz.func105.trans (congrArg some (by kernel_rfl))
 f31:=Tryz.func106.trans (congrArg some (by kernel_rfl))
 f32:=Tryz.func107.trans (congrArg some (by kernel_rfl))
 f33:=Tryz.func108.trans (congrArg some (by kernel_rfl))
 f34:=Tryz.func124.trans (congrArg some (by kernel_rfl))
 f35:=Tryz.func125.trans (congrArg some (by kernel_rfl))
 f36:=Tryz.func126.trans (congrArg some (by kernel_rfl))
 f37:=Tryz.func127.trans (congrArg some (by kernel_rfl))
 f38:=Tryz.func128.trans (congrArg some (by kernel_rfl))
 f39:=Tryz.func136.trans (congrArg some (by kernel_rfl))
 f40:=Tryz.func137.trans (congrArg some (by kernel_rfl))
 t0:=Tryz.underlying0
 a0:=Tryz.isAgg0
 z0:=Tryz.sizeOf0
 v0:=Tryz.zeroValue0
 i0:=by kernel_rfl
 t2:=Tryz.underlying2
 a2:=Tryz.isAgg2
 z2:=Tryz.sizeOf2
 v2:=Tryz.zeroValue2
 i2:=by kernel_rfl
 t3:=Tryz.underlying3
 a3:=Tryz.isAgg3
 z3:=Tryz.sizeOf3
 v3:=Tryz.zeroValue3
 i3:=by kernel_rfl
 t4:=Tryz.underlying4
 a4:=Tryz.isAgg4
 z4:=Tryz.sizeOf4
 v4:=Tryz.zeroValue4
 i4:=by kernel_rfl
 t5:=Tryz.underlying5
 a5:=Tryz.isAgg5
 z5:=Tryz.sizeOf5
 v5:=Tryz.zeroValue5
 i5:=by kernel_rfl
 t9:=Tryz.underlying9
 a9:=Tryz.isAgg9
 z9:=Tryz.sizeOf9
 v9:=Tryz.zeroValue9
 i9:=by kernel_rfl
 t20:=Tryz.underlying20
 a20:=Tryz.isAgg20
 z20:=Tryz.sizeOf20
 v20:=Tryz.zeroValue20
 i20:=by kernel_rfl
 t21:=Tryz.underlying21
 a21:=Tryz.isAgg21
 z21:=Tryz.sizeOf21
 v21:=Tryz.zeroValue21
 i21:=by kernel_rfl
 t22:=Tryz.underlying96
 a22:=Tryz.isAgg96
 z22:=Tryz.sizeOf96
 v22:=Tryz.zeroValue96
 i22:=by kernel_rfl
 t24:=Tryz.underlying116
 a24:=Tryz.isAgg116
 z24:=Tryz.sizeOf116
 v24:=Tryz.zeroValue116
 i24:=by kernel_rfl
 t25:=Tryz.underlying129
 a25:=Tryz.isAgg129
 z25:=Tryz.sizeOf129
 v25:=Tryz.zeroValue129
 i25:=by kernel_rfl
 t34:=Tryz.underlying152
 a34:=Tryz.isAgg152
 z34:=Tryz.sizeOf152
 v34:=Tryz.zeroValue152
 i34:=by kernel_rfl
 c34:=by kernel_rfl
 t36:=Tryz.underlying134
 a36:=Tryz.isAgg134
 z36:=Tryz.sizeOf134
 v36:=Tryz.zeroValue134
 i36:=by kernel_rfl
 t37:=Tryz.underlying108
 a37:=Tryz.isAgg108
 z37:=Tryz.sizeOf108
 v37:=Tryz.zeroValue108
 i37:=by kernel_rfl
 t39:=Tryz.underlying154
 a39:=Tryz.isAgg154
 z39:=Tryz.sizeOf154
 v39:=Tryz.zeroValue154
 i39:=by kernel_rfl
 t44:=Tryz.underlying162
 a44:=Tryz.isAgg162
 z44:=Tryz.sizeOf162
 v44:=Tryz.zeroValue162
 i44:=by kernel_rfl
 t47:=Tryz.underlying138
 a47:=Tryz.isAgg138
 z47:=Tryz.sizeOf138
 v47:=Tryz.zeroValue138
 i47:=by kernel_rfl
 t48:=Tryz.underlying164
 a48:=Tryz.isAgg164
 z48:=Tryz.sizeOf164
 v48:=Tryz.zeroValue164
 i48:=by kernel_rfl
 t50:=Tryz.underlying166
 a50:=Tryz.isAgg166
 z50:=Tryz.sizeOf166
 v50:=Tryz.zeroValue166
 i50:=by kernel_rfl
 t52:=Tryz.underlying121
 a52:=Tryz.isAgg121
 z52:=Tryz.sizeOf121
 v52:=Tryz.zeroValue121
 i52:=by kernel_rfl
 t55:=Tryz.underlying124
 a55:=Tryz.isAgg124
 z55:=Tryz.sizeOf124
 v55:=Tryz.zeroValue124
 i55:=by kernel_rfl
 t59:=Tryz.underlying140
 a59:=Tryz.isAgg140
 z59:=Tryz.sizeOf140
 v59:=Tryz.zeroValue140
 i59:=by kernel_rfl
 t60:=Tryz.underlying95
 a60:=Tryz.isAgg95
 z60:=Tryz.sizeOf95
 v60:=Tryz.zeroValue95
 i60:=by kernel_rfl
 t61:=Tryz.underlying141
 a61:=Tryz.isAgg141
 z61:=Tryz.sizeOf141
 t65:=Tryz.underlying158
 a65:=Tryz.isAgg158
 z65:=Tryz.sizeOf158
 v65:=Tryz.zeroValue158
 i65:=by kernel_rfl
 t66:=Tryz.underlying159
 a66:=Tryz.isAgg159
 z66:=Tryz.sizeOf159
 v66:=Tryz.zeroValue159
 i66:=by kernel_rfl
 t67:=Tryz.underlying56
 a67:=Tryz.isAgg56
 z67:=Tryz.sizeOf56
 v67:=Tryz.zeroValue56
 i67:=by kernel_rfl
 g0:=by kernel_rfl
 m0:=by kernel_rfl
 g1:=by kernel_rfl
 m1:=by kernel_rfl
 g2:=by kernel_rfl
 m2:=by kernel_rfl
 g3:=by kernel_rfl
 m3:=by kernel_rfl
 g4:=by kernel_rfl
 m4:=by kernel_rfl }
open Go.RowKit in
theorem Tryz.strconv_ParseUint_10_at32_ok (s:ByteArray) (hmax:s.size≤9223372036854775806) (u:Nat) (h:Lib.parseUintB 32 s.data.toList = .ok u) (w:World) :
  Calls Tryz.prog 113 #[.string s,.int .i64 10,.int .i64 32] w fun e w'=>e = .returned (.tuple #[.int .u64 u,.nilIface])∧(w' = w ∨ w' = Lib.bytesWorld w 5 s):=Any.strconv_ParseUint_10_at32_ok Tryz.laysPu14 s hmax u h w
end Go.Proofs
namespace Go.Proofs.YtaknchlegjcdhaaGreatDoor.Pt
set_option linter.unusedVariables false
set_option linter.unusedSimpArgs false
open Go.RowKit Go.Proofs.YtaknchlegjcdhaaGreatDoorW.PrintWords Go.Proofs.YtaknchlegjcdhaaGreatDoorW.PrintLast Go.Proofs.YtaknchlegjcdhaaGreatDoorW.PrintMore
def strconv_ParseUint_113.f (s:ByteArray) (b c:Int):Option Int :=
 if b = 10∧c = 32∧s.size≤9223372036854775806 then (match Lib.parseUintB 32 s.data.toList with|.ok u=>some (u:Int)|_=>none) else none
theorem strconv_ParseUint_113.calls (a0:ByteArray) (a1 a2:Int) (r:Int) (w:World) (h:strconv_ParseUint_113.f a0 a1 a2 = some r) :
  Calls Tryz.prog 113 #[.string a0,.int .i64 a1,.int .i64 a2] w fun e w'=>e = .returned (.tuple #[.int .u64 r,.nilIface])∧Below w.heap.size w w':=by
 unfold strconv_ParseUint_113.f at h
 by_cases hc:a1 = 10∧a2 = 32∧a0.size≤9223372036854775806
 case neg=>rw [if_neg hc] at h;cases h
 rw [if_pos hc] at h
 obtain ⟨rfl,rfl,hs⟩:=hc
 cases hu:Lib.parseUintB 32 a0.data.toList with
 | ok u =>
  rw [hu] at h
  injection h with h
  subst h
  refine (Tryz.strconv_ParseUint_10_at32_ok a0 hs u hu w).mono ?_
  rintro e w' ⟨he,hw⟩
  refine ⟨he,?_⟩
  rcases hw with rfl|rfl
  ·exact Below.refl _ _
  ·exact Lib.bytesWorld_below w 5 a0
 | _=>rw [hu] at h;cases h
end Go.Proofs.YtaknchlegjcdhaaGreatDoor.Pt
namespace Go.Proofs.YtaknchlegjcdhaaGreatDoor.Pt
open Go.RowKit Go.Proofs.YtaknchlegjcdhaaGreatDoorW.PrintWords Go.Proofs.YtaknchlegjcdhaaGreatDoorW.PrintLast Go.Proofs.YtaknchlegjcdhaaGreatDoorW.PrintMore
attribute [local go_sem] max2_int min2_int max_two min_two max_three min_three max_four min_four
set_option maxHeartbeats 8000000
set_option maxRecDepth 100000
set_option linter.unusedVariables false
set_option linter.unusedSimpArgs false
def natural_read.l0:Nat→ByteArray→List Int→Option (List Int)
 | 0,_,_=>none
 | k + 1,x0,x3=>if (x0.size:Int) > 0 then (if 0≤(mx (wrap64 ((x0.size:Int) - 9)) 0) then (if (mx (wrap64 ((x0.size:Int) - 9)) 0)≤(x0.size:Int) then ((strconv_ParseUint_113.f (x0.extract ((mx (wrap64 ((x0.size:Int) - 9)) 0):Int).toNat x0.size) 10 32).bind fun t141=>(if x3.length < 35184372088832 then (natural_read.l0 k (x0.extract 0 ((mx (wrap64 ((x0.size:Int) - 9)) 0):Int).toNat) (x3 ++ [(t141) % 4294967296])) else (none))) else (none)) else (none)) else ((natural_num_trim.f k x3).bind fun t145=>(some t145))
def natural_read.f (k:Nat) (a0:ByteArray):Option (List Int):=natural_read.l0 k a0 ([]:List Int)
theorem natural_read.calls (k:Nat) (a0:ByteArray) (r:List Int) (w:World) (h:natural_read.f k a0 = some r) :
  Calls Tryz.prog 90 #[.string a0] w fun e w'=>∃ v0_:Value,e = .returned (v0_)∧Kd.V (Kd.int .u32) 95 w' w.heap.size (fun k_=>(w.heap.size≤k_)) v0_ r∧Below w.heap.size w w':=by
 have HB:=Aside0.mk (Below.refl w.heap.size w)
 have H:(natural_read.l0 k a0 ([]:List Int)) = some r:=h
 clear h
 have H':=Aside0.mk H
 clear H
 go_enter Tryz.func90,Tryz.ntmps90
 go_wp2
 go_loopg [0,3] k (fun kq v0 v3 w'=>∃ (x0_1:ByteArray) (x3_1:List Int),v0 = .string x0_1∧Aside0 (natural_read.l0 kq x0_1 x3_1 = some r)∧Aside0 (kq≤k)∧Aside0 (Kd.R (Kd.int .u32) 95 w' w.heap.size (fun k_=>(w.heap.size≤k_)) v3 x3_1)∧Aside0 (Below w.heap.size w w'))
 case atStart=>exact ⟨(a0),(([]:List Int)),(by first|rfl|(simp;done)|(simp [*];done)),H',⟨Nat.le_refl _⟩,⟨by first|exact Kd.R_nil _ _ _ _ _|exact Kd.N_nil _ _ _ _ _|exact Kd.V_nil _ _ _ _ _|exact Kd.Q_nil _ _ _ _ _|exact Kd.S_nil _ _ _ _ _⟩,⟨bx_⟩⟩
 case round =>
  clear H'
  obtain ⟨x0_1,x3_1,rfl,HA,HK1,HO_3,HB⟩:=hrel
  cases gk with
  | zero=>exact absurd HA.out (by simp [natural_read.l0])
  | succ k1 =>
   have H:=HA.out
   clear HA
   simp only [natural_read.l0] at H
   by_cases c2:(x0_1.size:Int) > 0
   ·rw [if_pos c2] at H
    have c2b0:decide (0 < (x0_1.size:Int)) = true:=decide_eq_true c2
    have c2b1:decide (0 < x0_1.size) = true:=decide_eq_true (by omega)
    clear c2
    obtain ⟨ji3,hji3⟩:∃ j_:Int,(mx (wrap64 ((x0_1.size:Int) - 9)) 0) = j_:=⟨_,rfl⟩
    replace H:(if 0≤(ji3) then (if (ji3)≤(x0_1.size:Int) then ((strconv_ParseUint_113.f (x0_1.extract ((ji3):Int).toNat x0_1.size) 10 32).bind fun t141=>(if x3_1.length < 35184372088832 then (natural_read.l0 k1 (x0_1.extract 0 ((ji3):Int).toNat) (x3_1 ++ [(t141) % 4294967296])) else (none))) else (none)) else (none)) = some r:=by first|(rw [hji3] at H;exact H)|(simp only [hji3] at H ⊢;exact H)
    have hji3_:(if (wrap64 ((x0_1.size:Int) - 9)) < 0 then 0 else (wrap64 ((x0_1.size:Int) - 9))) = ji3:=hji3
    by_cases c4:0≤(ji3)
    ·rw [if_pos c4] at H
     have c4b0:=eq_true c4
     have c4b1:decide (0≤(ji3)) = true:=decide_eq_true c4
     clear c4
     by_cases c5:(ji3)≤(x0_1.size:Int)
     ·rw [if_pos c5] at H
      have c5b0:=eq_true c5
      have c5b1:decide ((ji3)≤(x0_1.size:Int)) = true:=decide_eq_true c5
      clear c5
      obtain ⟨t141,A6,H⟩:=bn_ H
      by_cases c7:x3_1.length < 35184372088832
      ·rw [if_pos c7] at H
       have LMc7:=Aside0.mk c7
       clear c7
       obtain ⟨y142,hy142⟩:∃ y_:List Int,y_ = (x3_1 ++ [(t141) % 4294967296]):=⟨_,rfl⟩
       replace H:(natural_read.l0 k1 (x0_1.extract 0 ((ji3):Int).toNat) y142) = some r:=by first|(rw [hy142];with_reducible exact H)|(have H2_:=(Option.bind_some _ _).symm.trans H;rw [hy142];with_reducible exact H2_)|(have H2_:=(Option.bind_some _ _).symm.trans H;with_reducible exact H2_)|with_reducible exact H|(rw [hy142];exact H)|exact H
       have Ny142:=Aside0.mk hy142
       clear hy142
       have c8b0:=eq_true (of_decide_eq_true (by first|(with_reducible assumption)|assumption):0≤(ji3))
       have c9b0:=eq_true (of_decide_eq_true (by first|(with_reducible assumption)|assumption):(ji3)≤(x0_1.size:Int))
       have H':=Aside0.mk H
       clear H
       go_wp2_with (first|((with_reducible refine gate_callee (f:=113) rfl ?_);refine goesL_ (some 18) rfl rfl Tryz.func113 kr_ rfl #[.string (x0_1.extract ((ji3):Int).toNat x0_1.size),.int .i64 10,.int .i64 32] rfl (by (try simp only [List.map_toArray,List.map_cons,List.map_nil]);first|done|(simp only [hji3];rfl)|rfl|(simp only [List.length_drop,List.length_take];rfl)) ?_;(with_reducible refine (strconv_ParseUint_113.calls (x0_1.extract ((ji3):Int).toNat x0_1.size) 10 32 t141 _ A6.out).mono ?_);rintro e w10 ⟨rfl,hb⟩;refine ⟨_,rfl,?_⟩;replace HO_3:=rb_ HO_3 hb;replace HB:=bs_ hb;(try clear hb))|((with_reducible refine gate_builtin (b:=.append) (xs:=#[.tmp 21,.tmp 24]) rfl ?_);at_builtin;refine Kd.R_append (Kd.int .u32) (w0:=w) w.heap.size rfl (.tmp 21) (.tmp 24) 74 95 (.int .u32 0) 4 rfl Tryz.underlying74 info95 rfl de_ (by omega) u3 x3_1 ((t141) % 4294967296) [.int .u32 ((t141) % 4294967296)] (fun k_=>(w.heap.size≤k_)) (fun _=>False) rfl rfl ?aP (fun _ hk=>hk.elim) ?aF ?aO ?aB ?aS ?aL ?_;(case aP=>exact rfl);(case aB=>exact bx_);(case aF=>exact (fun k_ hk=>(Nat.le_trans (below_size bx_) hk)));(case aO=>exact (by (with_reducible repeat (first|apply Kd.R_alloc|apply Kd.R_drewN|apply Kd.R_drew));exact HO_3.out));(case aS=>exact (below_size bx_));(case aL=>have:=LMc7.out;omega);intro v143 w11 ho hb hg hat;rw [← Ny142.out] at ho;have HO144:=Aside0.mk ho;replace HB:=Aside0.mk hb;clear HO_3;clear ho hb hg hat))
       go_roundg k1
       case measure=>have:=HK1.out;omega
       case rel=>exact ⟨(x0_1.extract 0 ((ji3):Int).toNat),(y142),(by first|rfl|(simp;done)|(simp only [← hji3]<;>(first|rfl|simp))|(simp [*];done)),H',⟨by have:=HK1.out;omega⟩,⟨by (with_reducible repeat (first|apply Kd.R_alloc|apply Kd.R_drewN|apply Kd.R_drew));exact HO144.out⟩,⟨bx_⟩⟩
      ·rw [if_neg c7] at H
       exact absurd H sm_
     ·rw [if_neg c5] at H
      exact absurd H sm_
    ·rw [if_neg c4] at H
     exact absurd H sm_
   ·rw [if_neg c2] at H
    have c2b0:decide (0 < (x0_1.size:Int)) = false:=decide_eq_false c2
    have c2b1:decide (0 < x0_1.size) = false:=decide_eq_false (by omega)
    clear c2
    obtain ⟨t145,A12,H⟩:=bn_ H
    obtain rfl:=Option.some.inj H
    obtain ⟨Ao13,co13,eo13⟩:=Kd.R_slice HO_3.out
    subst eo13
    go_wp2_with (first|((with_reducible refine gate_callee (f:=97) rfl ?_);refine gm_ (some 30) Tryz.func97 #[.slice Ao13 x3_1.length co13] ?_;(with_reducible refine (natural_num_trim.calls k1 (fun k_=>some k_ = (.slice Ao13 x3_1.length co13:Value).ownBlock) _ _ x3_1 t145 _ ?side1 A12.out).mono ?_);(case side1=>exact Kd.R_V (Kd.R_tight rfl (HO_3.out)));rintro e w14 ⟨v146,rfl,ho0,hb⟩;refine ⟨_,rfl,?_⟩;have HO147:=Aside0.mk (Kd.V_lower (Kd.V_mono (ok':=fun k_=>(w.heap.size≤k_)) ho0 (fun k_ hk_=>Or.elim hk_ (fun hs_=>((HO_3.out).1 k_ hs_.symm)) (fun hn_=>(Nat.le_trans (below_size bx_) hn_)))) (below_size bx_));replace HO_3:=rb_ HO_3 hb;replace HB:=bs_ hb;(try clear hb);(try clear ho0)))
    go_ret
    exact ⟨_,rf_,by (with_reducible repeat (first|apply Kd.V_alloc|apply Kd.V_drewN|apply Kd.V_drew));exact HO147.out,bx_⟩
end Go.Proofs.YtaknchlegjcdhaaGreatDoor.Pt
set_option maxHeartbeats 8000000
set_option maxRecDepth 100000
set_option linter.unusedVariables false
set_option linter.unusedSimpArgs false
namespace Go.Proofs.YtaknchlegjcdhaaGreatDoor.Pr
open Go.RowKit Go.Proofs.YtaknchlegjcdhaaGreatDoorW.PrintWords Go.Proofs.YtaknchlegjcdhaaGreatDoorW.PrintLast Go.Proofs.YtaknchlegjcdhaaGreatDoorW.PrintMore
attribute [local go_sem] max2_int min2_int max_two min_two max_three min_three max_four min_four
theorem R_take {e:Nat} {w:World} {base:Nat} {ok:Nat→Prop} {a:Addr} {n c m:Nat} {xs:List Int} (h:Kd.R (Kd.int .u32) e w base ok (.slice (some a) n c) xs) (hm:m≤xs.length):Kd.R (Kd.int .u32) e w base ok (.slice (some a) m c) (xs.take m):=by
 obtain ⟨h0,inner,⟨hl,ho⟩,hr⟩:=h
 rcases ho with ⟨h1,_⟩|⟨g,cap,cur,h1,hg,hh,hn,hc,hs,ht⟩
 ·cases h1
 ·injection h1 with ha hn' hc'
  subst hc'
  cases ha
  have hml:(xs.take m).length = m:=by rw [List.length_take];omega
  have hms:m * (Kd.int .u32).sz≤xs.length * (Kd.int .u32).sz:=Nat.mul_le_mul_right _ hm
  refine ⟨h0,inner.take (m * (Kd.int .u32).sz),⟨by rw [hml,List.length_take];omega,.inr ⟨g,c,cur,by rw [hml],hg,hh,by omega,hc,hs,?_⟩⟩,?_⟩
  ·rw [hml,← ht,List.take_take,Nat.min_eq_left hms]
  ·refine ⟨by rw [List.length_take,hml];have:=hr.1;omega,fun j p hj=>?_⟩
   have hjm:j < m:=by
    have:=(List.getElem?_eq_some_iff.1 hj).1
    omega
   rw [List.getElem?_take_of_lt hjm] at hj
   have h2:=hr.2 j p hj
   have h3:j * (Kd.int .u32).sz + (Kd.int .u32).sz≤m * (Kd.int .u32).sz:=by
    rw [← Nat.succ_mul]
    exact Nat.mul_le_mul_right _ hjm
   rw [List.drop_take,List.take_take,Nat.min_eq_left (by omega)]
   exact h2
theorem trim_own (k:Nat) (base:Nat) (ok:Nat→Prop) (A0:Option Addr) (c0:Nat) (l0:List Int) (r:List Int) (w:World) (hs0:Kd.R (Kd.int .u32) 95 w base ok (.slice A0 l0.length c0) l0) (h:natural_num_trim.f k l0 = some r) :
  Calls Tryz.prog 97 #[.slice A0 l0.length c0] w fun e w'=>∃ v0_:Value,e = .returned (v0_)∧Kd.R (Kd.int .u32) 95 w' base ok v0_ r∧Below w.heap.size w w':=by
 have HO0:=Aside0.mk hs0
 have HB:=Aside0.mk (Below.refl w.heap.size w)
 have H:(natural_num_trim.l0 k l0) = some r:=h
 clear h
 have H':=Aside0.mk H
 clear H
 go_enter Tryz.func97,Tryz.ntmps97
 go_wp2
 go_loopg [0] k (fun kq v0 w'=>∃ (x0_1:List Int),Aside0 (natural_num_trim.l0 kq x0_1 = some r)∧Aside0 (kq≤k)∧Aside0 (Kd.R (Kd.int .u32) 95 w' base ok v0 x0_1)∧Aside0 (Below w.heap.size w w'))
 case atStart=>exact ⟨(l0),H',⟨Nat.le_refl _⟩,⟨by (with_reducible repeat (first|apply Kd.R_alloc|apply Kd.R_drewN|apply Kd.R_drew));exact HO0.out⟩,⟨bx_⟩⟩
 case round =>
  clear H'
  obtain ⟨x0_1,HA,HK1,HO_0,HB⟩:=hrel
  cases gk with
  | zero=>exact absurd HA.out (by simp [natural_num_trim.l0])
  | succ k1 =>
   have H:=HA.out
   clear HA
   simp only [natural_num_trim.l0] at H
   by_cases c2:(x0_1.length:Int) > 0
   ·rw [if_pos c2] at H
    have c2b0:decide (0 < (x0_1.length:Int)) = true:=decide_eq_true c2
    have c2b1:decide (0 < x0_1.length) = true:=decide_eq_true (by omega)
    clear c2
    obtain ⟨ji3,hji3⟩:∃ j_:Int,(wrap64 ((x0_1.length:Int) - 1)) = j_:=⟨_,rfl⟩
    replace H:(if 0≤(ji3) then (if (ji3) < (x0_1.length:Int) then (if (rd x0_1 (ji3)) = 0 then (if (ji3)≤(x0_1.length:Int) then (natural_num_trim.l0 k1 (x0_1.take ((ji3):Int).toNat)) else (none)) else (some x0_1)) else (none)) else (none)) = some r:=by first|(rw [hji3] at H;exact H)|(simp only [hji3] at H ⊢;exact H)
    have hji3w:(IntKind.i64.wrap ((x0_1.length:Int) - 1)) = ji3:=(i64_w _).trans hji3
    by_cases c4:0≤(ji3)
    ·rw [if_pos c4] at H
     have c4b0:decide (0≤(ji3)) = true:=decide_eq_true c4
     clear c4
     by_cases c5:(ji3) < (x0_1.length:Int)
     ·rw [if_pos c5] at H
      have c5b0:decide ((ji3) < (x0_1.length:Int)) = true:=decide_eq_true c5
      clear c5
      by_cases c6:(rd x0_1 (ji3)) = 0
      ·rw [if_pos c6] at H
       have c6b0:((rd x0_1 (ji3)) == 0) = true:=beq_iff_eq.mpr c6
       have c6b1:((rd x0_1 (ji3)) != 0) = false:=bne_eq_false_iff_eq.mpr c6
       clear c6
       have c7b0:=eq_true (of_decide_eq_true (by first|(with_reducible assumption)|assumption):0≤(ji3))
       by_cases c8:(ji3)≤(x0_1.length:Int)
       ·rw [if_pos c8] at H
        have c8b0:=eq_true c8
        have c8b1:decide ((ji3)≤(x0_1.length:Int)) = true:=decide_eq_true c8
        clear c8
        obtain ⟨y102,hy102⟩:∃ y_:List Int,y_ = (x0_1.take ((ji3):Int).toNat):=⟨_,rfl⟩
        replace H:(natural_num_trim.l0 k1 y102) = some r:=by first|(rw [hy102];with_reducible exact H)|(have H2_:=(Option.bind_some _ _).symm.trans H;rw [hy102];with_reducible exact H2_)|(have H2_:=(Option.bind_some _ _).symm.trans H;with_reducible exact H2_)|with_reducible exact H|(rw [hy102];exact H)|exact H
        have Ny102:=Aside0.mk hy102
        clear hy102
        have H':=Aside0.mk H
        clear H
        obtain ⟨Ao9,co9,eo9⟩:=Kd.R_slice HO_0.out
        subst eo9
        have p101:0≤((ji3):Int):=da_
        have q101:(ji3) < (x0_1.length:Int):=da_
        obtain ⟨ad101,e101,hx101_0⟩:=Kd.at_int (Kd.V_reads' (Kd.R_V (base':=base) HO_0.out)).2.2 (ji3) p101 q101
        cases e101
        replace p101:=eq_true p101
        replace q101:=eq_true q101
        have q10:((ji3):Int)≤((x0_1.length:Int):Int):=da_
        obtain ⟨i010,hi010,_,hsz10,_⟩:=info_parts info95
        have hroom10:x0_1.length≤co9:=(Kd.V_reads' (Kd.R_V (base':=base) HO_0.out)).2.1
        have hcut10:=cut_to (P:=Tryz.prog) 74 95 .i64 Tryz.underlying74 hi010 (some ad101) x0_1.length co9 (ji3) (of_decide_eq_true (by first|(with_reducible assumption)|assumption)) q10 hroom10
        have hr10:=R_take (m:=((ji3):Int).toNat) HO_0.out (by omega)
        have hy10:y102.length = ((ji3):Int).toNat:=(by rw [Ny102.out,List.length_take];omega)
        rw [← hy10] at hcut10
        have HO106:=Aside0.mk (show Kd.R (Kd.int .u32) 95 _ base ok (.slice (some ad101) y102.length co9) y102 from by rw [Ny102.out] at hy10 ⊢;rw [hy10];exact hr10)
        have HC106:=Aside0.mk (show y102.length≤co9 from by omega)
        clear hr10 hroom10 hi010 hsz10
        have KY10:=Aside0.mk hy10
        clear hy10
        replace q10:=eq_true q10
        go_wp2
        go_roundg k1
        case measure=>have:=HK1.out;omega
        case rel=>exact ⟨(y102),H',⟨by have:=HK1.out;omega⟩,⟨by (with_reducible repeat (first|apply Kd.R_alloc|apply Kd.R_drewN|apply Kd.R_drew));exact HO106.out⟩,⟨bx_⟩⟩
       ·rw [if_neg c8] at H
        exact absurd H sm_
      ·rw [if_neg c6] at H
       have c6b0:((rd x0_1 (ji3)) == 0) = false:=beq_eq_false_iff_ne.mpr c6
       have c6b1:((rd x0_1 (ji3)) != 0) = true:=bne_iff_ne.mpr c6
       obtain rfl:=Option.some.inj H
       obtain ⟨Ao11,co11,eo11⟩:=Kd.R_slice HO_0.out
       subst eo11
       have p101:0≤((ji3):Int):=da_
       have q101:(ji3) < (x0_1.length:Int):=da_
       obtain ⟨ad101,e101,hx101_0⟩:=Kd.at_int (Kd.V_reads' (Kd.R_V (base':=base) HO_0.out)).2.2 (ji3) p101 q101
       cases e101
       replace p101:=eq_true p101
       replace q101:=eq_true q101
       go_wp2
       go_ret
       exact ⟨_,by first|rfl|(simp [errW_none,errW_some]<;>rfl)|(simp only [← hji3];first|rfl|(simp [errW_none,errW_some]<;>rfl))|(simp [*,errW_none,errW_some]<;>rfl),by (with_reducible repeat (first|apply Kd.R_alloc|apply Kd.R_drewN|apply Kd.R_drew));exact HO_0.out,bx_⟩
     ·rw [if_neg c5] at H
      exact absurd H sm_
    ·rw [if_neg c4] at H
     exact absurd H sm_
   ·rw [if_neg c2] at H
    have c2b0:decide (0 < (x0_1.length:Int)) = false:=decide_eq_false c2
    have c2b1:decide (0 < x0_1.length) = false:=decide_eq_false (by omega)
    clear c2
    obtain rfl:=Option.some.inj H
    obtain ⟨Ao12,co12,eo12⟩:=Kd.R_slice HO_0.out
    subst eo12
    go_wp2
    go_ret
    exact ⟨_,rf_,by (with_reducible repeat (first|apply Kd.R_alloc|apply Kd.R_drewN|apply Kd.R_drew));exact HO_0.out,bx_⟩
end Go.Proofs.YtaknchlegjcdhaaGreatDoor.Pr
namespace Go.Proofs.YtaknchlegjcdhaaGreatDoor.Pt
open Go.RowKit Go.Proofs.YtaknchlegjcdhaaGreatDoorW.PrintWords Go.Proofs.YtaknchlegjcdhaaGreatDoorW.PrintLast Go.Proofs.YtaknchlegjcdhaaGreatDoorW.PrintMore
attribute [local go_sem] max2_int min2_int max_two min_two max_three min_three max_four min_four
set_option linter.unusedVariables false
set_option linter.unusedSimpArgs false
open Go.Proofs.YtaknchlegjcdhaaGreatDoor.Pr (trim_own)
theorem trim_same:∀ k l,natural_num_trim.f k l = Pr.natural_num_trim.f k l:=by
 intro k
 unfold natural_num_trim.f Pr.natural_num_trim.f
 induction k with
 | zero=>intro l;rfl
 | succ k ih =>
  intro l
  unfold natural_num_trim.l0 Pr.natural_num_trim.l0
  simp only [ih]
set_option maxHeartbeats 8000000 in
set_option maxRecDepth 100000 in
theorem read_own (k:Nat) (a0:ByteArray) (r:List Int) (w:World) (h:natural_read.f k a0 = some r) :
  Calls Tryz.prog 90 #[.string a0] w fun e w'=>∃ v0_:Value,e = .returned (v0_)∧Kd.R (Kd.int .u32) 95 w' w.heap.size (fun k_=>(w.heap.size≤k_)) v0_ r∧Below w.heap.size w w':=by
 have HB:=Aside0.mk (Below.refl w.heap.size w)
 have H:(natural_read.l0 k a0 ([]:List Int)) = some r:=h
 clear h
 have H':=Aside0.mk H
 clear H
 go_enter Tryz.func90,Tryz.ntmps90
 go_wp2
 go_loopg [0,3] k (fun kq v0 v3 w'=>∃ (x0_1:ByteArray) (x3_1:List Int),v0 = .string x0_1∧Aside0 (natural_read.l0 kq x0_1 x3_1 = some r)∧Aside0 (kq≤k)∧Aside0 (Kd.R (Kd.int .u32) 95 w' w.heap.size (fun k_=>(w.heap.size≤k_)) v3 x3_1)∧Aside0 (Below w.heap.size w w'))
 case atStart=>exact ⟨(a0),(([]:List Int)),(by first|rfl|(simp;done)|(simp [*];done)),H',⟨Nat.le_refl _⟩,⟨by first|exact Kd.R_nil _ _ _ _ _|exact Kd.N_nil _ _ _ _ _|exact Kd.V_nil _ _ _ _ _|exact Kd.Q_nil _ _ _ _ _|exact Kd.S_nil _ _ _ _ _⟩,⟨by repeat (first|(with_reducible first|exact HB.out|apply below_alloc|apply pw_below_drewN|apply below_drew1)|exact HB.out)⟩⟩
 case round =>
  clear H'
  obtain ⟨x0_1,x3_1,rfl,HA,HK1,HO_3,HB⟩:=hrel
  cases gk with
  | zero=>exact absurd HA.out (by simp [natural_read.l0])
  | succ k1 =>
   have H:=HA.out
   clear HA
   simp only [natural_read.l0] at H
   by_cases c2:(x0_1.size:Int) > 0
   ·rw [if_pos c2] at H
    have c2b0:decide (0 < (x0_1.size:Int)) = true:=decide_eq_true c2
    have c2b1:decide (0 < x0_1.size) = true:=decide_eq_true (by omega)
    clear c2
    obtain ⟨ji3,hji3⟩:∃ j_:Int,(mx (wrap64 ((x0_1.size:Int) - 9)) 0) = j_:=⟨_,rfl⟩
    replace H:(if 0≤(ji3) then (if (ji3)≤(x0_1.size:Int) then ((strconv_ParseUint_113.f (x0_1.extract ((ji3):Int).toNat x0_1.size) 10 32).bind fun t141=>(if x3_1.length < 35184372088832 then (natural_read.l0 k1 (x0_1.extract 0 ((ji3):Int).toNat) (x3_1 ++ [(t141) % 4294967296])) else (none))) else (none)) else (none)) = some r:=by first|(rw [hji3] at H;exact H)|(simp only [hji3] at H ⊢;exact H)
    have hji3_:(if (wrap64 ((x0_1.size:Int) - 9)) < 0 then 0 else (wrap64 ((x0_1.size:Int) - 9))) = ji3:=hji3
    by_cases c4:0≤(ji3)
    ·rw [if_pos c4] at H
     have c4b0:=eq_true c4
     have c4b1:decide (0≤(ji3)) = true:=decide_eq_true c4
     clear c4
     by_cases c5:(ji3)≤(x0_1.size:Int)
     ·rw [if_pos c5] at H
      have c5b0:=eq_true c5
      have c5b1:decide ((ji3)≤(x0_1.size:Int)) = true:=decide_eq_true c5
      clear c5
      replace H:=Option.bind_eq_some_iff.mp H
      obtain ⟨t141,A60,H⟩:=H
      replace H:(if x3_1.length < 35184372088832 then (natural_read.l0 k1 (x0_1.extract 0 ((ji3):Int).toNat) (x3_1 ++ [(t141) % 4294967296])) else (none)) = some r:=H
      have A6:=Aside0.mk A60
      clear A60
      by_cases c7:x3_1.length < 35184372088832
      ·rw [if_pos c7] at H
       have LMc7:=Aside0.mk c7
       clear c7
       obtain ⟨y142,hy142⟩:∃ y_:List Int,y_ = (x3_1 ++ [(t141) % 4294967296]):=⟨_,rfl⟩
       replace H:(natural_read.l0 k1 (x0_1.extract 0 ((ji3):Int).toNat) y142) = some r:=by first|(rw [hy142];with_reducible exact H)|(have H2_:=(Option.bind_some _ _).symm.trans H;rw [hy142];with_reducible exact H2_)|(have H2_:=(Option.bind_some _ _).symm.trans H;with_reducible exact H2_)|with_reducible exact H|(rw [hy142];exact H)|exact H
       have Ny142:=Aside0.mk hy142
       clear hy142
       have c8b0:=eq_true (of_decide_eq_true (by first|(with_reducible assumption)|assumption):0≤(ji3))
       have c9b0:=eq_true (of_decide_eq_true (by first|(with_reducible assumption)|assumption):(ji3)≤(x0_1.size:Int))
       have H':=Aside0.mk H
       clear H
       go_wp2_with (first|((with_reducible refine gate_callee (f:=113) rfl ?_);refine goesL_ (some 18) rfl rfl Tryz.func113 (by kernel_rfl) rfl #[.string (x0_1.extract ((ji3):Int).toNat x0_1.size),.int .i64 10,.int .i64 32] rfl (by (try simp only [List.map_toArray,List.map_cons,List.map_nil]);first|done|(simp only [hji3];rfl)|rfl|(simp only [List.length_drop,List.length_take];rfl)) ?_;(with_reducible refine (strconv_ParseUint_113.calls (x0_1.extract ((ji3):Int).toNat x0_1.size) 10 32 t141 _ A6.out).mono ?_);rintro e w10 ⟨rfl,hb⟩;refine ⟨_,rfl,?_⟩;have n0_:=Aside0.mk (Kd.R_below (by (with_reducible repeat (first|apply Kd.R_alloc|apply Kd.R_drewN|apply Kd.R_drew));exact HO_3.out) hb);have n1_:=Aside0.mk (below_step (by repeat (first|(with_reducible first|exact HB.out|apply below_alloc|apply pw_below_drewN|apply below_drew1)|exact HB.out)) hb);clear HO_3;clear HB;have HO_3:=n0_;have HB:=n1_;clear n0_ n1_;(try clear hb);(try clear hb2);(try clear hk);(try clear hi))|((with_reducible refine gate_builtin (b:=.append) (xs:=#[.tmp 21,.tmp 24]) rfl ?_);at_builtin;refine Kd.R_append (Kd.int .u32) (w0:=w) w.heap.size rfl (.tmp 21) (.tmp 24) 74 95 (.int .u32 0) 4 rfl Tryz.underlying74 info95 rfl (by decide) (by omega) u3 x3_1 ((t141) % 4294967296) [.int .u32 ((t141) % 4294967296)] (fun k_=>(w.heap.size≤k_)) (fun _=>False) rfl rfl ?aP (fun _ hk=>hk.elim) ?aF ?aO ?aB ?aS ?aL ?_;(case aP=>exact rfl);(case aB=>exact (by repeat (first|(with_reducible first|exact HB.out|apply below_alloc|apply pw_below_drewN|apply below_drew1)|exact HB.out)));(case aF=>exact (fun k_ hk=>(Nat.le_trans (below_size (by repeat (first|(with_reducible first|exact HB.out|apply below_alloc|apply pw_below_drewN|apply below_drew1)|exact HB.out))) hk)));(case aO=>exact (by (with_reducible repeat (first|apply Kd.R_alloc|apply Kd.R_drewN|apply Kd.R_drew));exact HO_3.out));(case aS=>exact (below_size (by repeat (first|(with_reducible first|exact HB.out|apply below_alloc|apply pw_below_drewN|apply below_drew1)|exact HB.out))));(case aL=>have:=LMc7.out;omega);intro v143 w11 ho hb hg hat;rw [← Ny142.out] at ho;have n0_:=Aside0.mk (hb);have n1_:=Aside0.mk (ho);clear HB;clear HO_3;have HB:=n0_;have HO144:=n1_;clear n0_ n1_;clear ho hb hg hat))
       go_roundg k1
       case measure=>have:=HK1.out;omega
       case rel=>exact ⟨(x0_1.extract 0 ((ji3):Int).toNat),(y142),(by first|rfl|(simp;done)|(simp only [← hji3]<;>(first|rfl|simp))|(simp [*];done)),H',⟨by have:=HK1.out;omega⟩,⟨by (with_reducible repeat (first|apply Kd.R_alloc|apply Kd.R_drewN|apply Kd.R_drew));exact HO144.out⟩,⟨by repeat (first|(with_reducible first|exact HB.out|apply below_alloc|apply pw_below_drewN|apply below_drew1)|exact HB.out)⟩⟩
      ·rw [if_neg c7] at H
       exact absurd H (by simp)
     ·rw [if_neg c5] at H
      exact absurd H (by simp)
    ·rw [if_neg c4] at H
     exact absurd H (by simp)
   ·rw [if_neg c2] at H
    have c2b0:decide (0 < (x0_1.size:Int)) = false:=decide_eq_false c2
    have c2b1:decide (0 < x0_1.size) = false:=decide_eq_false (by omega)
    clear c2
    replace H:=Option.bind_eq_some_iff.mp H
    obtain ⟨t145,A120,H⟩:=H
    replace H:(some t145) = some r:=H
    have A12:=Aside0.mk A120
    clear A120
    obtain rfl:=Option.some.inj H
    obtain ⟨Ao13,co13,eo13⟩:=Kd.R_slice HO_3.out
    subst eo13
    go_wp2_with (first|((with_reducible refine gate_callee (f:=97) rfl ?_);refine goesL_ (some 30) rfl rfl Tryz.func97 (by kernel_rfl) rfl #[.slice Ao13 x3_1.length co13] rfl (by (try simp only [List.map_toArray,List.map_cons,List.map_nil]);first|done|rfl|(simp only [List.length_drop,List.length_take];rfl)) ?_;(refine (trim_own k1 w.heap.size (fun k_=>(w.heap.size≤k_)) _ _ x3_1 t145 _ ?side1 ((trim_same _ _).symm.trans A12.out)).mono ?_);(case side1=>(with_reducible repeat (first|apply Kd.R_alloc|apply Kd.R_drewN|apply Kd.R_drew));exact HO_3.out);rintro e w14 ⟨v146,rfl,ho0,hb⟩;refine ⟨_,rfl,?_⟩;have n1_:=Aside0.mk ho0;have n2_:=Aside0.mk (below_step (by repeat (first|(with_reducible first|exact HB.out|apply below_alloc|apply pw_below_drewN|apply below_drew1)|exact HB.out)) hb);clear HO_3;clear HB;have HO147:=n1_;have HB:=n2_;clear n1_ n2_;(try clear hb);(try clear hb2);(try clear hk);(try clear hi);(try clear ho0)))
    go_ret
    exact ⟨_,by first|rfl|(simp [errW_none,errW_some]<;>rfl)|(simp [*,errW_none,errW_some]<;>rfl),by (with_reducible repeat (first|apply Kd.R_alloc|apply Kd.R_drewN|apply Kd.R_drew));exact HO147.out,by repeat (first|(with_reducible first|exact HB.out|apply below_alloc|apply pw_below_drewN|apply below_drew1)|exact HB.out)⟩
end Go.Proofs.YtaknchlegjcdhaaGreatDoor.Pt
set_option linter.unusedVariables false
set_option linter.unusedSimpArgs false
namespace Go.Proofs.YtaknchlegjcdhaaGreatDoor.NatTh
open Go.Lib
theorem head_app (a b:List UInt8) (h:a≠[]):(a ++ b).head? = a.head?:=by
 cases a with
 | nil=>exact absurd rfl h
 | cons x a=>rfl
def dg (d:Nat):UInt8:=UInt8.ofNat (48 + d)
theorem dg_toNat (d:Nat) (h:d < 10):(dg d).toNat = 48 + d:=by
 unfold dg
 rw [UInt8.toNat_ofNat']
 omega
theorem dec_small (n:Nat) (h:n < 10):decDigits n = [dg n]:=by rw [decDigits,dif_pos h];rfl
theorem dec_big (n:Nat) (h:¬ n < 10):decDigits n = decDigits (n / 10) ++ [dg (n % 10)]:=by rw [decDigits,dif_neg h];rfl
def pad:Nat→Nat→List UInt8
 | 0,_=>[]
 | k + 1,w=>pad k (w / 10) ++ [dg (w % 10)]
theorem pad_length (k w:Nat):(pad k w).length = k:=by
 induction k generalizing w with
 | zero=>rfl
 | succ k ih=>rw [pad,List.length_append,ih];rfl
theorem dec_pad (k:Nat):∀ (x w:Nat),0 < x→w < 10 ^ k→decDigits (x * 10 ^ k + w) = decDigits x ++ pad k w:=by
 induction k with
 | zero=>intro x w hx hw;simp at hw;subst hw;simp [pad]
 | succ k ih =>
  intro x w hx hw
  have e:x * 10 ^ (k + 1) + w = 10 * (x * 10 ^ k + w / 10) + w % 10:=by
   rw [Nat.pow_succ,Nat.mul_add,← Nat.mul_assoc,Nat.mul_comm 10 (x * 10 ^ k),Nat.mul_assoc x]
   rw [← Nat.mul_assoc]
   omega
  have hk:0 < 10 ^ k:=Nat.pow_pos (by omega)
  have hxk:1≤x * 10 ^ k:=Nat.mul_pos hx hk
  have hw2:w / 10 < 10 ^ k:=by
   rw [Nat.pow_succ] at hw
   omega
  rw [e,dec_big _ (by omega),show (10 * (x * 10 ^ k + w / 10) + w % 10) / 10 = x * 10 ^ k + w / 10 by omega,show (10 * (x * 10 ^ k + w / 10) + w % 10) % 10 = w % 10 by omega,ih x (w / 10) hx hw2,pad,List.append_assoc]
theorem pad_zero (k:Nat):pad k 0 = List.replicate k 48:=by
 induction k with
 | zero=>rfl
 | succ k ih =>
  rw [pad,List.replicate_succ']
  show pad k (0 / 10) ++ [dg 0] = _
  rw [Nat.zero_div,ih]
  rfl
theorem nDigits_le (k w:Nat) (hk:1≤k) (hw:w < 10 ^ k):nDigits w≤k:=by
 induction k generalizing w with
 | zero=>omega
 | succ k ih =>
  by_cases h:w < 10
  ·rw [nDigits_small h];omega
  ·rw [nDigits_big h]
   have hk1:1≤k:=by
    by_cases e:k = 0
    ·subst e;simp at hw;omega
    ·omega
   have:=ih (w / 10) hk1 (by rw [Nat.pow_succ] at hw;omega)
   omega
theorem pad_eq (k:Nat):∀ w,1≤k→w < 10 ^ k→pad k w = List.replicate (k - (decDigits w).length) 48 ++ decDigits w:=by
 induction k with
 | zero=>intro w h;omega
 | succ k ih =>
  intro w _ hw
  by_cases h:w < 10
  ·rw [pad,Nat.div_eq_of_lt h,pad_zero,Nat.mod_eq_of_lt h,dec_small w h]
   rfl
  ·have hk:1≤k:=by
    by_cases e:k = 0
    ·subst e;simp at hw;omega
    ·omega
   have hw2:w / 10 < 10 ^ k:=by rw [Nat.pow_succ] at hw;omega
   have hl:=nDigits_le k (w / 10) hk hw2
   rw [pad,ih (w / 10) hk hw2,dec_big w h,List.length_append,List.length_singleton,List.append_assoc]
   rw [show k + 1 - ((decDigits (w / 10)).length + 1) = k - (decDigits (w / 10)).length by omega]
def pv (l:List UInt8):Nat:=l.foldl (fun a c=>a * 10 + (c.toNat - 48)) 0
theorem pv_snoc (l:List UInt8) (c:UInt8):pv (l ++ [c]) = pv l * 10 + (c.toNat - 48):=by
 unfold pv
 rw [List.foldl_append]
 rfl
def isDig (c:UInt8):Prop:=48≤c.toNat∧c.toNat≤57
theorem dg_isDig (d:Nat) (h:d < 10):isDig (dg d):=by unfold isDig;rw [dg_toNat d h];omega
theorem dg_of (c:UInt8) (h:isDig c):dg (c.toNat - 48) = c:=by
 unfold dg isDig at *
 apply UInt8.toNat.inj
 rw [UInt8.toNat_ofNat']
 have:=UInt8.toNat_lt c
 omega
theorem pv_dec (n:Nat):pv (decDigits n) = n:=by
 induction n using Nat.strongRecOn with
 | ind n ih =>
  by_cases h:n < 10
  ·rw [dec_small n h]
   unfold pv
   simp only [List.foldl_cons,List.foldl_nil,dg_toNat n h]
   omega
  ·rw [dec_big n h,pv_snoc,ih (n / 10) (by omega),dg_toNat _ (Nat.mod_lt _ (by omega))]
   omega
theorem dec_digs (n:Nat):∀ c ∈ decDigits n,isDig c:=by
 induction n using Nat.strongRecOn with
 | ind n ih =>
  by_cases h:n < 10
  ·rw [dec_small n h]
   intro c hc
   simp at hc
   rw [hc]
   exact dg_isDig n h
  ·rw [dec_big n h]
   intro c hc
   rcases List.mem_append.1 hc with hc|hc
   ·exact ih (n / 10) (by omega) c hc
   ·simp at hc
    rw [hc]
    exact dg_isDig _ (Nat.mod_lt _ (by omega))
def Nml (l:List UInt8):Prop:=(∀ c ∈ l,isDig c)∧l≠[]∧(1 < l.length→l.head?≠some 48)
theorem dec_ne (n:Nat):decDigits n≠[]:=by
 by_cases h:n < 10
 ·rw [dec_small n h];simp
 ·rw [dec_big n h];simp
theorem dec_head (n:Nat) (hn:0 < n):(decDigits n).head?≠some 48:=by
 induction n using Nat.strongRecOn with
 | ind n ih =>
  by_cases h:n < 10
  ·rw [dec_small n h]
   intro e
   simp only [List.head?_cons,Option.some.injEq] at e
   have:=dg_toNat n h
   rw [e] at this
   have h48:(48:UInt8).toNat = 48:=rfl
   omega
  ·rw [dec_big n h,head_app _ _ (dec_ne _)]
   exact ih (n / 10) (by omega) (by omega)
theorem nml_dec (n:Nat):Nml (decDigits n):=by
 refine ⟨dec_digs n,dec_ne n,fun hl=>?_⟩
 by_cases h:n < 10
 ·rw [dec_small n h] at hl
  simp at hl
 ·exact dec_head n (by omega)
theorem pv_lt (l:List UInt8) (h:∀ c ∈ l,isDig c):pv l < 10 ^ l.length:=by
 suffices H:∀ (n:Nat) (l:List UInt8),l.length = n→(∀ c ∈ l,isDig c)→pv l < 10 ^ n from H _ l rfl h
 intro n
 induction n with
 | zero =>
  intro l hl _
  have:l = []:=List.eq_nil_of_length_eq_zero hl
  subst this
  decide
 | succ n ih =>
  intro l hl h
  rcases List.eq_nil_or_concat l with rfl|⟨a,c,rfl⟩
  ·simp at hl
  ·rw [List.concat_eq_append] at h hl ⊢
   have h1:=ih a (by simpa using hl) (fun x hx=>h x (by simp [hx]))
   have h2:=h c (by simp)
   unfold isDig at h2
   rw [pv_snoc,Nat.pow_succ]
   omega
theorem pv_append (a b:List UInt8):pv (a ++ b) = pv a * 10 ^ b.length + pv b:=by
 suffices H:∀ (n:Nat) (b:List UInt8),b.length = n→pv (a ++ b) = pv a * 10 ^ n + pv b from H _ b rfl
 intro n
 induction n with
 | zero =>
  intro b hb
  have:b = []:=List.eq_nil_of_length_eq_zero hb
  subst this
  simp [pv]
 | succ n ih =>
  intro b hb
  rcases List.eq_nil_or_concat b with rfl|⟨b',c,rfl⟩
  ·simp at hb
  ·rw [List.concat_eq_append] at hb ⊢
   rw [← List.append_assoc,pv_snoc,pv_snoc,ih b' (by simpa using hb),Nat.pow_succ,Nat.add_mul,← Nat.mul_assoc]
   omega
theorem dec_pv (l:List UInt8) (h:Nml l):decDigits (pv l) = l:=by
 suffices H:∀ (n:Nat) (l:List UInt8),l.length = n→Nml l→decDigits (pv l) = l∧(1 < l.length→10≤pv l)∧(l.head?≠some 48→0 < pv l) from (H _ l rfl h).1
 intro n
 induction n with
 | zero=>intro l hl h;exact absurd (List.eq_nil_of_length_eq_zero hl) h.2.1
 | succ n ih =>
  intro l hl h
  rcases List.eq_nil_or_concat l with rfl|⟨a,c,rfl⟩
  ·simp at hl
  ·rw [List.concat_eq_append] at h hl ⊢
   have hc:=h.1 c (by simp)
   have hc':=hc
   unfold isDig at hc'
   by_cases ha:a = []
   ·subst ha
    have e:pv ([] ++ [c]) = c.toNat - 48:=by rw [pv_snoc];simp [pv]
    refine ⟨?_,fun h1=>by simp at h1,fun h1=>?_⟩
    ·rw [e,dec_small _ (by omega),dg_of c hc]
     rfl
    ·rw [e]
     simp at h1
     have:c.toNat≠48:=fun e2=>h1 (UInt8.toNat.inj e2)
     omega
   ·have hal:0 < a.length:=List.length_pos_iff.2 ha
    have hh:(a ++ [c]).head? = a.head?:=head_app _ _ ha
    have hhead:a.head?≠some 48:=by
     rw [← hh]
     exact h.2.2 (by rw [List.length_append,List.length_singleton];omega)
    obtain ⟨h1,h2,h3⟩:=ih a (by simpa using hl) ⟨fun x hx=>h.1 x (by simp [hx]),ha,fun _=>hhead⟩
    have hp:=h3 hhead
    have e:pv (a ++ [c]) = pv a * 10 + (c.toNat - 48):=pv_snoc a c
    refine ⟨?_,fun _=>by rw [e];omega,fun _=>by rw [e];omega⟩
    rw [e,dec_big _ (by omega),show (pv a * 10 + (c.toNat - 48)) / 10 = pv a by omega,show (pv a * 10 + (c.toNat - 48)) % 10 = c.toNat - 48 by omega,h1,dg_of c hc]
theorem parse_digs (M:Nat) (hM:M < 1844674407370955162):∀ (l:List UInt8) (acc:Nat),(∀ c ∈ l,isDig c)→l.foldl (fun a c=>a * 10 + (c.toNat - 48)) acc≤M→parseUintM M acc l = .ok (l.foldl (fun a c=>a * 10 + (c.toNat - 48)) acc)
 | [],acc,_,_=>rfl
 | c :: r,acc,h,hm=>by
  have hc:=h c (by simp)
  unfold isDig at hc
  have mono:∀ (r:List UInt8) (x:Nat),x≤r.foldl (fun a c=>a * 10 + (c.toNat - 48)) x:=by
   intro r
   induction r with
   | nil=>intro x;exact Nat.le_refl _
   | cons d r ih=>intro x;exact Nat.le_trans (by omega) (ih (x * 10 + (d.toNat - 48)))
  have h1:=mono r (acc * 10 + (c.toNat - 48))
  rw [List.foldl_cons] at hm ⊢
  unfold parseUintM
  rw [if_pos hc,if_neg (by omega),if_neg (by omega)]
  exact parse_digs M hM r _ (fun x hx=>h x (by simp [hx])) hm
theorem parse32 (l:List UInt8) (h:∀ c ∈ l,isDig c) (hl:1≤l.length) (hl9:l.length≤9):parseUintB 32 l = .ok (pv l):=by
 have h1:=pv_lt l h
 have h2:10 ^ l.length≤10 ^ 9:=Nat.pow_le_pow_right (by omega) hl9
 unfold parseUintB
 rw [if_neg (fun e=>by rw [e] at hl;simp at hl)]
 exact parse_digs _ (by decide) l 0 h (by unfold pv at h1;omega)
end Go.Proofs.YtaknchlegjcdhaaGreatDoor.NatTh
set_option linter.unusedVariables false
namespace Go.Proofs.YtaknchlegjcdhaaGreatDoor.NatTh
open Go.Lib
def txt:List Int→List UInt8
 | []=>[]
 | [w]=>decDigits w.toNat
 | w :: y :: l=>txt (y :: l) ++ pad 9 w.toNat
def text (l:List Int):List UInt8:=if l = [] then [48] else txt l
theorem txt_numOf (n:Nat):0 < n→txt (numOf n) = decDigits n:=by
 induction n using Nat.strongRecOn with
 | ind n ih =>
  intro hn
  by_cases h:n < 1000000000
  ·rw [numOf_one h hn,txt]
   rfl
  ·have h1:=ih (n / 1000000000) (Nat.div_lt_self (by omega) (by omega)) (by omega)
   rw [numOf,dif_neg (by omega)]
   have hl:=len_pos (show 0 < n / 1000000000 by omega)
   obtain ⟨y,l,hy⟩:=List.exists_cons_of_ne_nil (List.length_pos_iff.1 hl)
   rw [hy] at h1 ⊢
   rw [txt,h1,Int.toNat_natCast]
   have:=dec_pad 9 (n / 1000000000) (n % 1000000000) (by omega) (Nat.mod_lt _ (by omega))
   rw [← this]
   congr 1
   omega
theorem text_numOf (n:Nat):text (numOf n) = decDigits n:=by
 by_cases h:n = 0
 ·subst h
  rw [numOf_zero,dec_small 0 (by omega)]
  rfl
 ·unfold text
  rw [if_neg (fun e=>h (numOf_nil.1 e)),txt_numOf n (by omega)]
def words (l:List UInt8):List Int:=if h:l = [] then [] else (pv (l.drop (l.length - 9)):Int) :: words (l.take (l.length - 9))
 termination_by l.length
 decreasing_by
  have:=List.length_pos_iff.2 h
  rw [List.length_take]
  omega
theorem words_nil:words [] = []:=by rw [words];simp
theorem words_spec (n:Nat):∀ l:List UInt8,l.length = n→(∀ c ∈ l,isDig c)→Wd (words l)∧val (words l) = pv l:=by
 induction n using Nat.strongRecOn with
 | ind n ih =>
  intro l hl hd
  by_cases h:l = []
  ·subst h
   rw [words_nil]
   exact ⟨Wd.nil,rfl⟩
  ·have hp:=List.length_pos_iff.2 h
   obtain ⟨h1,h2⟩:=ih (l.take (l.length - 9)).length (by rw [List.length_take];omega) _ rfl (fun c hc=>hd c (List.mem_of_mem_take hc))
   have h3:=pv_lt (l.drop (l.length - 9)) (fun c hc=>hd c (List.mem_of_mem_drop hc))
   have h4:10 ^ (l.drop (l.length - 9)).length≤10 ^ 9:=Nat.pow_le_pow_right (by omega) (by rw [List.length_drop];omega)
   rw [words,dif_neg h]
   refine ⟨Wd.cons ⟨by omega,by unfold B;omega⟩ h1,?_⟩
   rw [val,h2]
   have e:=pv_append (l.take (l.length - 9)) (l.drop (l.length - 9))
   rw [List.take_append_drop] at e
   by_cases h9:9≤l.length
   ·rw [show (l.drop (l.length - 9)).length = 9 by rw [List.length_drop];omega] at e
    rw [e]
    unfold B
    omega
   ·rw [show l.length - 9 = 0 by omega] at e ⊢
    simp only [List.take_zero,List.drop_zero] at e ⊢
    simp [pv]
end Go.Proofs.YtaknchlegjcdhaaGreatDoor.NatTh
namespace Go.Proofs.YtaknchlegjcdhaaGreatDoor.Pr
open Go.RowKit Go.Proofs.YtaknchlegjcdhaaGreatDoorW.PrintWords Go.Proofs.YtaknchlegjcdhaaGreatDoorW.PrintLast Go.Proofs.YtaknchlegjcdhaaGreatDoorW.PrintMore
def natural_read.f (a:ByteArray):Option (List Int):=Pt.natural_read.f (2 * a.size + 10) a
theorem natural_read.calls (a0:ByteArray) (r:List Int) (w:World) (h:natural_read.f a0 = some r) :
  Calls Tryz.prog 90 #[.string a0] w fun e w'=>∃ v0_:Value,e = .returned (v0_)∧Kd.R (Kd.int .u32) 95 w' w.heap.size (fun k_=>(w.heap.size≤k_)) v0_ r∧Below w.heap.size w w' :=
 Pt.read_own _ a0 r w h
end Go.Proofs.YtaknchlegjcdhaaGreatDoor.Pr
namespace Go.Proofs.YtaknchlegjcdhaaGreatDoor.Pr
open Go.RowKit Go.Proofs.YtaknchlegjcdhaaGreatDoorW.PrintWords Go.Proofs.YtaknchlegjcdhaaGreatDoorW.PrintLast Go.Proofs.YtaknchlegjcdhaaGreatDoorW.PrintMore
attribute [local go_sem] max2_int min2_int max_two min_two max_three min_three max_four min_four
set_option maxHeartbeats 8000000
set_option maxRecDepth 100000
set_option linter.unusedVariables false
set_option linter.unusedSimpArgs false
def garboardref01_Valid.l0:Nat→ByteArray→Int→Option (Bool)
 | 0,_,_=>none
 | k + 1,x0,x3=>if x3 < (x0.size:Int) then (if 0≤x3 then (if (bt x0 x3) < 48 then (some false) else (if (bt x0 x3) > 57 then (some false) else (garboardref01_Valid.l0 k x0 (wrap64 (x3 + 1))))) else (none)) else (if (x0.size:Int) = 1 then (some true) else (if (x0.size:Int) > 1 then (if 0 < (x0.size:Int) then (some ((bt x0 0) != 48)) else (none)) else (some false)))
def garboardref01_Valid.f (k:Nat) (a0:ByteArray):Option (Bool):=garboardref01_Valid.l0 k a0 0
theorem garboardref01_Valid.calls (k:Nat) (a0:ByteArray) (r:Bool) (w:World) (h:garboardref01_Valid.f k a0 = some r) :
  Calls Tryz.prog 49 #[.string a0] w fun e w'=>e = .returned (.bool r)∧Drawn0 w w':=by
 have H:(garboardref01_Valid.l0 k a0 0) = some r:=h
 clear h
 have H':=Aside0.mk H
 clear H
 go_enter Tryz.func49,Tryz.ntmps49
 go_wp2
 go_loopg [3] k (fun kq v3 w'=>∃ (x3_1:Int),v3 = .int .i64 x3_1∧Aside0 (garboardref01_Valid.l0 kq a0 x3_1 = some r)∧Aside0 (kq≤k)∧Drawn0 w w')
 case atStart=>exact ⟨(0),(by first|rfl|(simp;done)|(simp [*];done)),H',⟨Nat.le_refl _⟩,by repeat (first|exact Drawn0.refl _|apply Drawn0.step)⟩
 case round =>
  clear H'
  obtain ⟨x3_1,rfl,HA,HK1,⟨m1,rfl⟩⟩:=hrel
  cases gk with
  | zero=>exact absurd HA.out (by simp [garboardref01_Valid.l0])
  | succ k1 =>
   have H:=HA.out
   clear HA
   simp only [garboardref01_Valid.l0] at H
   by_cases c2:x3_1 < (a0.size:Int)
   ·rw [if_pos c2] at H
    have c2b0:decide (x3_1 < (a0.size:Int)) = true:=decide_eq_true c2
    clear c2
    by_cases c3:0≤x3_1
    ·rw [if_pos c3] at H
     have c3b0:decide (0≤x3_1) = true:=decide_eq_true c3
     clear c3
     by_cases c5:(bt a0 x3_1) < 48
     ·rw [if_pos c5] at H
      have c5b0:decide ((bt a0 x3_1) < 48) = true:=decide_eq_true c5
      clear c5
      obtain rfl:=Option.some.inj H
      have p4:0≤(x3_1:Int):=da_
      have q4:x3_1 < (a0.size:Int):=da_
      have hx4:=bt_at a0 x3_1
      replace p4:=eq_true p4
      replace q4:=eq_true q4
      go_wp2
      go_ret
      exact ⟨by first|rfl|(simp;done)|(simp [*];done),by repeat (first|exact Drawn0.refl _|apply Drawn0.step)⟩
     ·rw [if_neg c5] at H
      have c5b0:decide ((bt a0 x3_1) < 48) = false:=decide_eq_false c5
      clear c5
      by_cases c7:(bt a0 x3_1) > 57
      ·rw [if_pos c7] at H
       have c7b0:decide (57 < (bt a0 x3_1)) = true:=decide_eq_true c7
       clear c7
       obtain rfl:=Option.some.inj H
       have p4:0≤(x3_1:Int):=da_
       have q4:x3_1 < (a0.size:Int):=da_
       have hx4:=bt_at a0 x3_1
       replace p4:=eq_true p4
       replace q4:=eq_true q4
       have p6:0≤(x3_1:Int):=da_
       have q6:x3_1 < (a0.size:Int):=da_
       have hx6:=bt_at a0 x3_1
       replace p6:=eq_true p6
       replace q6:=eq_true q6
       go_wp2
       go_ret
       exact ⟨by first|rfl|(simp;done)|(simp [*];done),by repeat (first|exact Drawn0.refl _|apply Drawn0.step)⟩
      ·rw [if_neg c7] at H
       have c7b0:decide (57 < (bt a0 x3_1)) = false:=decide_eq_false c7
       clear c7
       have H':=Aside0.mk H
       clear H
       have p4:0≤(x3_1:Int):=da_
       have q4:x3_1 < (a0.size:Int):=da_
       have hx4:=bt_at a0 x3_1
       replace p4:=eq_true p4
       replace q4:=eq_true q4
       have p6:0≤(x3_1:Int):=da_
       have q6:x3_1 < (a0.size:Int):=da_
       have hx6:=bt_at a0 x3_1
       replace p6:=eq_true p6
       replace q6:=eq_true q6
       go_wp2
       go_roundg k1
       case measure=>have:=HK1.out;omega
       case rel=>exact ⟨(wrap64 (x3_1 + 1)),(by first|rfl|(simp;done)|(simp [*];done)),H',⟨by have:=HK1.out;omega⟩,by repeat (first|exact Drawn0.refl _|apply Drawn0.step)⟩
    ·rw [if_neg c3] at H
     exact absurd H sm_
   ·rw [if_neg c2] at H
    have c2b0:decide (x3_1 < (a0.size:Int)) = false:=decide_eq_false c2
    clear c2
    by_cases c8:(a0.size:Int) = 1
    ·rw [if_pos c8] at H
     have c8b0:((a0.size:Int) == 1) = true:=beq_iff_eq.mpr c8
     have c8b1:((a0.size:Int) != 1) = false:=bne_eq_false_iff_eq.mpr c8
     clear c8
     obtain rfl:=Option.some.inj H
     go_wp2
     go_ret
     exact ⟨by first|rfl|(simp;done)|(simp [*];done),by repeat (first|exact Drawn0.refl _|apply Drawn0.step)⟩
    ·rw [if_neg c8] at H
     have c8b0:((a0.size:Int) == 1) = false:=beq_eq_false_iff_ne.mpr c8
     have c8b1:((a0.size:Int) != 1) = true:=bne_iff_ne.mpr c8
     by_cases c9:(a0.size:Int) > 1
     ·rw [if_pos c9] at H
      have c9b0:decide (1 < (a0.size:Int)) = true:=decide_eq_true c9
      have c9b1:decide (1 < a0.size) = true:=decide_eq_true (by omega)
      clear c9
      by_cases c10:0 < (a0.size:Int)
      ·rw [if_pos c10] at H
       have c10b0:decide (0 < (a0.size:Int)) = true:=decide_eq_true c10
       have c10b1:decide (0 < a0.size) = true:=decide_eq_true (by omega)
       clear c10
       obtain rfl:=Option.some.inj H
       have p11:0≤(0:Int):=(by omega)
       have q11:0 < a0.size:=(by have:(0:Int) < (a0.size:Int):=da_;omega)
       have hx11:∀ h:0 < a0.size,((a0[0]'h).toNat:Int) = bt a0 0:=bt_at a0 0
       clear p11
       have qi11:(0 < (a0.size:Int)) = True:=eq_true (of_decide_eq_true (by first|(with_reducible assumption)|assumption))
       replace q11:=eq_true q11
       go_wp2
       go_ret
       exact ⟨by first|rfl|(simp;done)|(simp [*];done),by repeat (first|exact Drawn0.refl _|apply Drawn0.step)⟩
      ·rw [if_neg c10] at H
       exact absurd H sm_
     ·rw [if_neg c9] at H
      have c9b0:decide (1 < (a0.size:Int)) = false:=decide_eq_false c9
      have c9b1:decide (1 < a0.size) = false:=decide_eq_false (by omega)
      clear c9
      obtain rfl:=Option.some.inj H
      go_wp2
      go_ret
      exact ⟨by first|rfl|(simp;done)|(simp [*];done),by repeat (first|exact Drawn0.refl _|apply Drawn0.step)⟩
end Go.Proofs.YtaknchlegjcdhaaGreatDoor.Pr
namespace Go.Proofs.YtaknchlegjcdhaaGreatDoor.Pr
open Go.RowKit Go.Proofs.YtaknchlegjcdhaaGreatDoorW.PrintWords Go.Proofs.YtaknchlegjcdhaaGreatDoorW.PrintLast Go.Proofs.YtaknchlegjcdhaaGreatDoorW.PrintMore
attribute [local go_sem] max2_int min2_int max_two min_two max_three min_three max_four min_four
set_option maxHeartbeats 8000000
set_option maxRecDepth 100000
set_option linter.unusedVariables false
set_option linter.unusedSimpArgs false
mutual
def garboardref01_From.l0:Nat→ByteArray→List Int→Int→Option (List Int)
 | 0,_,_,_=>none
 | k + 1,x0,x3,x4=>if x4 > 0 then (garboardref01_From.l1 k x0 x3 x4 0 (mx 0 (wrap64 (x4 - 9)))) else ((garboardref01_trim.f k x3).bind fun t423=>(some t423))
def garboardref01_From.l1:Nat→ByteArray→List Int→Int→Int→Int→Option (List Int)
 | 0,_,_,_,_,_=>none
 | k + 1,x0,x3,x4,x5,x6=>if x6 < x4 then (if 0≤x6 then (if x6 < (x0.size:Int) then (garboardref01_From.l1 k x0 x3 x4 ((((10 * x5) % 4294967296) + (((bt x0 x6) - 48) % 256)) % 4294967296) (wrap64 (x6 + 1))) else (none)) else (none)) else (if x3.length < 35184372088832 then (garboardref01_From.l0 k x0 (x3 ++ [x5]) (wrap64 (x4 - 9))) else (none))
end
def garboardref01_From.f (k:Nat) (a0:ByteArray):Option (List Int):=garboardref01_From.l0 k a0 ([]:List Int) (a0.size:Int)
theorem garboardref01_From.calls (k:Nat) (a0:ByteArray) (r:List Int) (w:World) (h:garboardref01_From.f k a0 = some r) :
  Calls Tryz.prog 71 #[.string a0] w fun e w'=>∃ v0_:Value,e = .returned (v0_)∧Kd.V (Kd.int .u32) 95 w' w.heap.size (fun k_=>(w.heap.size≤k_)) v0_ r∧Below w.heap.size w w':=by
 have HB:=Aside0.mk (Below.refl w.heap.size w)
 have H:(garboardref01_From.l0 k a0 ([]:List Int) (a0.size:Int)) = some r:=h
 clear h
 have H':=Aside0.mk H
 clear H
 go_enter Tryz.func71,Tryz.ntmps71
 go_wp2
 go_loopg [3,4] k (fun kq v3 v4 w'=>∃ (x3_1:List Int) (x4_1:Int),v4 = .int .i64 x4_1∧Aside0 (garboardref01_From.l0 kq a0 x3_1 x4_1 = some r)∧Aside0 (kq≤k)∧Aside0 (Kd.R (Kd.int .u32) 95 w' w.heap.size (fun k_=>(w.heap.size≤k_)) v3 x3_1)∧Aside0 (Below w.heap.size w w'))
 case atStart=>exact ⟨(([]:List Int)),((a0.size:Int)),(by first|rfl|(simp;done)|(simp [*];done)),H',⟨Nat.le_refl _⟩,⟨by first|exact Kd.R_nil _ _ _ _ _|exact Kd.N_nil _ _ _ _ _|exact Kd.V_nil _ _ _ _ _|exact Kd.Q_nil _ _ _ _ _|exact Kd.S_nil _ _ _ _ _⟩,⟨bx_⟩⟩
 case round =>
  clear H'
  obtain ⟨x3_1,x4_1,rfl,HA,HK1,HO_3,HB⟩:=hrel
  cases gk with
  | zero=>exact absurd HA.out (by simp [garboardref01_From.l0])
  | succ k1 =>
   have H:=HA.out
   clear HA
   simp only [garboardref01_From.l0] at H
   by_cases c2:x4_1 > 0
   ·rw [if_pos c2] at H
    have c2b0:decide (0 < x4_1) = true:=decide_eq_true c2
    clear c2
    obtain ⟨ji3,hji3⟩:∃ j_:Int,(mx 0 (wrap64 (x4_1 - 9))) = j_:=⟨_,rfl⟩
    replace H:(garboardref01_From.l1 k1 a0 x3_1 x4_1 0 ji3) = some r:=by first|(rw [hji3] at H;exact H)|(simp only [hji3] at H ⊢;exact H)
    have hji3_:(if 0 < (wrap64 (x4_1 - 9)) then (wrap64 (x4_1 - 9)) else 0) = ji3:=hji3
    have H':=Aside0.mk H
    clear H
    go_wp2
    go_loopg [5,6] k1 (fun kq v5 v6 w'=>∃ (x5_2:Int) (x6_2:Int),v5 = .int .u32 x5_2∧v6 = .int .i64 x6_2∧Aside0 (garboardref01_From.l1 kq a0 x3_1 x4_1 x5_2 x6_2 = some r)∧Aside0 (kq≤k1)∧Aside0 (Kd.R (Kd.int .u32) 95 w' w.heap.size (fun k_=>(w.heap.size≤k_)) u3 x3_1)∧Aside0 (Below w.heap.size w w'))
    case atStart=>exact ⟨(0),(ji3),(by first|rfl|(simp;done)|(simp [*];done)),(by first|rfl|(simp;done)|(simp only [← hji3]<;>(first|rfl|simp))|(simp [*];done)),H',⟨Nat.le_refl _⟩,⟨by (with_reducible repeat (first|apply Kd.R_alloc|apply Kd.R_drewN|apply Kd.R_drew));exact HO_3.out⟩,⟨bx_⟩⟩
    case round =>
     clear H'
     try clear c2
     try clear c2b0
     try clear p2
     obtain ⟨x5_2,x6_2,rfl,rfl,HA,HK2,HO_3,HB⟩:=hrel
     cases gk with
     | zero=>exact absurd HA.out (by simp [garboardref01_From.l1])
     | succ k2 =>
      have H:=HA.out
      clear HA
      simp only [garboardref01_From.l1] at H
      by_cases c4:x6_2 < x4_1
      ·rw [if_pos c4] at H
       have c4b0:decide (x6_2 < x4_1) = true:=decide_eq_true c4
       clear c4
       by_cases c5:0≤x6_2
       ·rw [if_pos c5] at H
        have c5b0:decide (0≤x6_2) = true:=decide_eq_true c5
        clear c5
        by_cases c6:x6_2 < (a0.size:Int)
        ·rw [if_pos c6] at H
         have c6b0:decide (x6_2 < (a0.size:Int)) = true:=decide_eq_true c6
         clear c6
         have H':=Aside0.mk H
         clear H
         have p7:0≤(x6_2:Int):=da_
         have q7:x6_2 < (a0.size:Int):=da_
         have hx7:=bt_at a0 x6_2
         replace p7:=eq_true p7
         replace q7:=eq_true q7
         go_wp2
         go_roundg k2
         case measure=>have:=HK1.out;have:=HK2.out;omega
         case rel=>exact ⟨((((10 * x5_2) % 4294967296) + (((bt a0 x6_2) - 48) % 256)) % 4294967296),(wrap64 (x6_2 + 1)),(by first|rfl|(simp;done)|(simp [*];done)),(by first|rfl|(simp;done)|(simp [*];done)),H',⟨by have:=HK1.out;have:=HK2.out;omega⟩,⟨by (with_reducible repeat (first|apply Kd.R_alloc|apply Kd.R_drewN|apply Kd.R_drew));exact HO_3.out⟩,⟨bx_⟩⟩
        ·rw [if_neg c6] at H
         exact absurd H sm_
       ·rw [if_neg c5] at H
        exact absurd H sm_
      ·rw [if_neg c4] at H
       have c4b0:decide (x6_2 < x4_1) = false:=decide_eq_false c4
       clear c4
       by_cases c8:x3_1.length < 35184372088832
       ·rw [if_pos c8] at H
        have LMc8:=Aside0.mk c8
        clear c8
        obtain ⟨y426,hy426⟩:∃ y_:List Int,y_ = (x3_1 ++ [x5_2]):=⟨_,rfl⟩
        replace H:(garboardref01_From.l0 k2 a0 y426 (wrap64 (x4_1 - 9))) = some r:=by first|(rw [hy426];with_reducible exact H)|(have H2_:=(Option.bind_some _ _).symm.trans H;rw [hy426];with_reducible exact H2_)|(have H2_:=(Option.bind_some _ _).symm.trans H;with_reducible exact H2_)|with_reducible exact H|(rw [hy426];exact H)|exact H
        have Ny426:=Aside0.mk hy426
        clear hy426
        have H':=Aside0.mk H
        clear H
        go_wp2_with (first|((with_reducible refine gate_builtin (b:=.append) (xs:=#[.tmp 29,.tmp 31]) rfl ?_);at_builtin;refine Kd.R_append (Kd.int .u32) (w0:=w) w.heap.size rfl (.tmp 29) (.tmp 31) 49 95 (.int .u32 0) 4 rfl Tryz.underlying49 info95 rfl de_ (by omega) u3 x3_1 x5_2 [.int .u32 x5_2] (fun k_=>(w.heap.size≤k_)) (fun _=>False) rfl rfl ?aP (fun _ hk=>hk.elim) ?aF ?aO ?aB ?aS ?aL ?_;(case aP=>exact rfl);(case aB=>exact bx_);(case aF=>exact (fun k_ hk=>(Nat.le_trans (below_size bx_) hk)));(case aO=>exact (by (with_reducible repeat (first|apply Kd.R_alloc|apply Kd.R_drewN|apply Kd.R_drew));exact HO_3.out));(case aS=>exact (below_size bx_));(case aL=>have:=LMc8.out;omega);intro v427 w9 ho hb hg hat;rw [← Ny426.out] at ho;have HO428:=Aside0.mk ho;replace HB:=Aside0.mk hb;clear HO_3;clear ho hb hg hat))
        go_roundg k2
        case measure=>have:=HK1.out;have:=HK2.out;omega
        case rel=>exact ⟨(y426),(wrap64 (x4_1 - 9)),(by first|rfl|(simp;done)|(simp [*];done)),H',⟨by have:=HK1.out;have:=HK2.out;omega⟩,⟨by (with_reducible repeat (first|apply Kd.R_alloc|apply Kd.R_drewN|apply Kd.R_drew));exact HO428.out⟩,⟨bx_⟩⟩
       ·rw [if_neg c8] at H
        exact absurd H sm_
   ·rw [if_neg c2] at H
    have c2b0:decide (0 < x4_1) = false:=decide_eq_false c2
    clear c2
    obtain ⟨t423,A10,H⟩:=bn_ H
    obtain rfl:=Option.some.inj H
    obtain ⟨Ao11,co11,eo11⟩:=Kd.R_slice HO_3.out
    subst eo11
    go_wp2_with (first|((with_reducible refine gate_callee (f:=103) rfl ?_);refine gm_ (some 34) Tryz.func103 #[.slice Ao11 x3_1.length co11] ?_;(with_reducible refine (garboardref01_trim.calls k1 (fun k_=>some k_ = (.slice Ao11 x3_1.length co11:Value).ownBlock) _ _ x3_1 t423 _ ?side1 A10.out).mono ?_);(case side1=>exact Kd.R_V (Kd.R_tight rfl (HO_3.out)));rintro e w12 ⟨v424,rfl,ho0,hb⟩;refine ⟨_,rfl,?_⟩;have HO425:=Aside0.mk (Kd.V_lower (Kd.V_mono (ok':=fun k_=>(w.heap.size≤k_)) ho0 (fun k_ hk_=>Or.elim hk_ (fun hs_=>((HO_3.out).1 k_ hs_.symm)) (fun hn_=>(Nat.le_trans (below_size bx_) hn_)))) (below_size bx_));replace HO_3:=rb_ HO_3 hb;replace HB:=bs_ hb;(try clear hb);(try clear ho0)))
    go_ret
    exact ⟨_,rf_,by (with_reducible repeat (first|apply Kd.V_alloc|apply Kd.V_drewN|apply Kd.V_drew));exact HO425.out,bx_⟩
end Go.Proofs.YtaknchlegjcdhaaGreatDoor.Pr
set_option linter.unusedVariables false
set_option linter.unusedSimpArgs false
namespace Go.Proofs.YtaknchlegjcdhaaGreatDoor.Pr
open Go.RowKit Go.Proofs.YtaknchlegjcdhaaGreatDoorW.PrintWords Go.Proofs.YtaknchlegjcdhaaGreatDoorW.PrintLast Go.Proofs.YtaknchlegjcdhaaGreatDoorW.PrintMore Go.Proofs.YtaknchlegjcdhaaGreatDoor.NatTh
def dgB (c:UInt8):Bool:=decide (48≤c.toNat) && decide (c.toNat≤57)
theorem dgB_iff (c:UInt8):dgB c = true ↔ isDig c:=by
 unfold dgB isDig
 simp
abbrev bs (s:ByteArray):List UInt8:=s.data.toList
theorem bs_length (s:ByteArray):(bs s).length = s.size:=data_length s
def nv (s:ByteArray):Bool:=(bs s).all dgB && !(bs s).isEmpty && (decide ((bs s).length≤1) || (bs s).head? != some 48)
theorem nv_iff (s:ByteArray):nv s = true ↔ Nml (bs s):=by
 unfold nv Nml
 rw [Bool.and_eq_true,Bool.and_eq_true,List.all_eq_true,Bool.or_eq_true,decide_eq_true_iff,bne_iff_ne,Bool.not_eq_true',List.isEmpty_eq_false_iff,and_assoc]
 refine and_congr ⟨fun h c hc=>(dgB_iff c).1 (h c hc),fun h c hc=>(dgB_iff c).2 (h c hc)⟩ (and_congr Iff.rfl ⟨fun h hl=>h.resolve_left (by omega),fun h=>?_⟩)
 by_cases hl:(bs s).length≤1
 ·exact .inl hl
 ·exact .inr (h (by omega))
theorem bt_get (s:ByteArray) (n:Nat) (h:n < s.size):bt s (n:Int) = (((bs s).getD n 0).toNat:Int):=by
 rw [← rd_bytesOf,rd_eq]
 unfold bytesOf
 rw [List.getD_eq_getElem?_getD,List.getD_eq_getElem?_getD,List.getElem?_map]
 rw [List.getElem?_eq_getElem (by rw [bs_length];exact h)]
 rfl
theorem all_drop (l:List UInt8) (n:Nat) (h:n < l.length):(l.drop n).all dgB = (dgB (l.getD n 0) && (l.drop (n + 1)).all dgB):=by
 rw [List.drop_eq_getElem_cons h,List.all_cons,List.getD_eq_getElem?_getD,List.getElem?_eq_getElem h]
 rfl
theorem valid_loop (s:ByteArray) (hs:s.size < 1152921504606846976):∀ (m n:Nat),n + m = s.size→∀ k,natural_Valid.l0 (k + 1 + m) s s.size n = some (((bs s).drop n).all dgB):=by
 intro m
 induction m with
 | zero =>
  intro n hn k
  show natural_Valid.l0 (k + 1) s s.size n = _
  unfold natural_Valid.l0
  rw [if_neg (by omega),List.drop_of_length_le (by rw [bs_length];omega)]
  rfl
 | succ m ih =>
  intro n hn k
  have h1:=ih (n + 1) (by omega) k
  rw [all_drop _ n (by rw [bs_length];omega)]
  rw [show k + 1 + (m + 1) = k + 1 + m + 1 by omega]
  unfold natural_Valid.l0
  rw [if_pos (by omega),if_pos (by omega),if_pos (by omega),bt_get s n (by omega),wi1 n (by omega),h1]
  unfold dgB
  by_cases h2:(((bs s).getD n 0).toNat:Int) < 48
  ·rw [if_pos h2,decide_eq_false (by omega)]
   rfl
  ·rw [if_neg h2,decide_eq_true (by omega)]
   by_cases h3:(((bs s).getD n 0).toNat:Int) > 57
   ·rw [if_pos h3,decide_eq_false (by omega)]
    rfl
   ·rw [if_neg h3,decide_eq_true (by omega)]
    rfl
theorem toL (s:ByteArray):s.toList = bs s:=ByteArray.toList_eq s
theorem Valid_ev (s:ByteArray) (hs:s.size < 1152921504606846976):Ev (fun k=>natural_Valid.f k s) (nv s):=by
 refine ⟨s.size + 2,fun k hk=>?_⟩
 have hl:=bs_length s
 obtain ⟨k,rfl⟩:∃ j,k = j + 1 + s.size + 1:=⟨k - 2 - s.size,by omega⟩
 have h0:=valid_loop s hs s.size 0 (by omega) k
 rw [List.drop_zero] at h0
 have j1:natural_Valid.j0 (k + 1 + s.size + 1) s true = some false:=by
  rw [natural_Valid.j0,if_pos rfl]
 have j2:natural_Valid.j0 (k + 1 + s.size + 1) s false = some ((bs s).all dgB):=by
  rw [natural_Valid.j0,if_neg (by simp)]
  exact h0
 simp only [natural_Valid.f,nv]
 rw [toL]
 by_cases he:bs s = []
 ·rw [if_pos he,j1,he]
  rfl
 ·have hpos:0 < (bs s).length:=List.length_pos_iff.2 he
  rw [if_neg he]
  have e1:(bs s).isEmpty = false:=by rw [List.isEmpty_eq_false_iff];exact he
  rw [e1]
  by_cases h2:(s.size:Int) > 1
  ·rw [if_pos h2,if_pos (by omega),show (0:Int) = ((0:Nat):Int) from rfl,bt_get s 0 (by omega)]
   rw [decide_eq_false (by omega),Bool.false_or]
   have e2:(bs s).head? = some ((bs s).getD 0 0):=by
    rw [List.head?_eq_getElem?,List.getD_eq_getElem?_getD,List.getElem?_eq_getElem (by omega)]
    rfl
   rw [e2]
   by_cases h3:(bs s).getD 0 0 = 48
   ·rw [h3]
    rw [show ((((48:UInt8).toNat:Nat):Int) == 48) = true from rfl,j1]
    simp
   ·rw [show ((((bs s).getD 0 0).toNat:Int) == 48) = false by
     rw [beq_eq_false_iff_ne]
     intro h4
     exact h3 (UInt8.toNat.inj (by have:(48:UInt8).toNat = 48:=rfl;omega)),j2]
    rw [show (some ((bs s).getD 0 0) != some 48) = true by rw [bne_iff_ne];intro h4;exact h3 (Option.some.inj h4)]
    simp
  ·rw [if_neg h2,j2,decide_eq_true (by omega)]
   simp
theorem rvalid_loop (s:ByteArray) (hs:s.size < 1152921504606846976):∀ (m n:Nat),n + m = s.size→∀ k,garboardref01_Valid.l0 (k + 1 + m) s n = some (((bs s).drop n).all dgB && (!(bs s).isEmpty && (decide ((bs s).length≤1) || (bs s).head? != some 48))):=by
 have hl:=bs_length s
 intro m
 induction m with
 | zero =>
  intro n hn k
  show garboardref01_Valid.l0 (k + 1) s n = _
  unfold garboardref01_Valid.l0
  rw [if_neg (by omega),List.drop_of_length_le (by rw [bs_length];omega)]
  by_cases h1:(s.size:Int) = 1
  ·rw [if_pos h1,decide_eq_true (by omega)]
   have e1:(bs s).isEmpty = false:=by
    rw [List.isEmpty_eq_false_iff,← List.length_pos_iff]
    omega
   rw [e1]
   rfl
  ·rw [if_neg h1]
   by_cases h2:(s.size:Int) > 1
   ·have e1:(bs s).isEmpty = false:=by
     rw [List.isEmpty_eq_false_iff,← List.length_pos_iff]
     omega
    rw [if_pos h2,if_pos (by omega),show (0:Int) = ((0:Nat):Int) from rfl,bt_get s 0 (by omega),e1,decide_eq_false (by omega)]
    have e2:(bs s).head? = some ((bs s).getD 0 0):=by
     rw [List.head?_eq_getElem?,List.getD_eq_getElem?_getD,List.getElem?_eq_getElem (by omega)]
     rfl
    rw [e2]
    by_cases h3:(bs s).getD 0 0 = 48
    ·rw [h3]
     rfl
    ·rw [show ((((bs s).getD 0 0).toNat:Int) != 48) = true by
      rw [bne_iff_ne]
      intro h4
      exact h3 (UInt8.toNat.inj (by have:(48:UInt8).toNat = 48:=rfl;omega))]
     rw [show (some ((bs s).getD 0 0) != some 48) = true by rw [bne_iff_ne];intro h4;exact h3 (Option.some.inj h4)]
     rfl
   ·have e1:bs s = []:=List.eq_nil_of_length_eq_zero (by omega)
    rw [if_neg h2,e1]
    rfl
 | succ m ih =>
  intro n hn k
  have h1:=ih (n + 1) (by omega) k
  rw [all_drop _ n (by rw [bs_length];omega)]
  rw [show k + 1 + (m + 1) = k + 1 + m + 1 by omega]
  unfold garboardref01_Valid.l0
  rw [if_pos (by omega),if_pos (by omega),bt_get s n (by omega),wi1 n (by omega),h1]
  have e3:dgB ((bs s).getD n 0) = (decide (48≤((bs s).getD n 0).toNat) && decide (((bs s).getD n 0).toNat≤57)):=rfl
  rw [e3]
  by_cases h2:(((bs s).getD n 0).toNat:Int) < 48
  ·rw [if_pos h2,decide_eq_false (p:=48≤((bs s).getD n 0).toNat) (by omega)]
   rfl
  ·rw [if_neg h2,decide_eq_true (p:=48≤((bs s).getD n 0).toNat) (by omega)]
   by_cases h3:(((bs s).getD n 0).toNat:Int) > 57
   ·rw [if_pos h3,decide_eq_false (p:=((bs s).getD n 0).toNat≤57) (by omega)]
    rfl
   ·rw [if_neg h3,decide_eq_true (p:=((bs s).getD n 0).toNat≤57) (by omega)]
    rfl
theorem rValid_ev (s:ByteArray) (hs:s.size < 1152921504606846976):Ev (fun k=>garboardref01_Valid.f k s) (nv s):=by
 refine ⟨s.size + 1,fun k hk=>?_⟩
 obtain ⟨k,rfl⟩:∃ j,k = j + 1 + s.size:=⟨k - 1 - s.size,by omega⟩
 simp only [garboardref01_Valid.f,nv]
 rw [show (0:Int) = ((0:Nat):Int) from rfl,rvalid_loop s hs s.size 0 (by omega) k,List.drop_zero,Bool.and_assoc]
end Go.Proofs.YtaknchlegjcdhaaGreatDoor.Pr
set_option linter.unusedVariables false
set_option linter.unusedSimpArgs false
namespace Go.Proofs.YtaknchlegjcdhaaGreatDoor.Pr
open Go.RowKit Go.Proofs.YtaknchlegjcdhaaGreatDoorW.PrintWords Go.Proofs.YtaknchlegjcdhaaGreatDoorW.PrintLast Go.Proofs.YtaknchlegjcdhaaGreatDoorW.PrintMore Go.Proofs.YtaknchlegjcdhaaGreatDoor.NatTh
theorem bs_from (s:ByteArray) (a:Nat):bs (s.extract a s.size) = (bs s).drop a:=by
 unfold bs
 rw [ByteArray.data_extract,Array.toList_extract,List.extract_eq_take_drop,List.take_of_length_le]
 rw [List.length_drop,data_length]
 exact Nat.le_refl _
theorem bs_to (s:ByteArray) (a:Nat):bs (s.extract 0 a) = (bs s).take a:=by
 unfold bs
 rw [ByteArray.data_extract,Array.toList_extract,List.extract_eq_take_drop,List.drop_zero,Nat.sub_zero]
theorem words_len (n:Nat):∀ l:List UInt8,l.length = n→(words l).length≤l.length:=by
 induction n using Nat.strongRecOn with
 | ind n ih =>
  intro l hl
  by_cases h:l = []
  ·subst h
   rw [words_nil]
   exact Nat.le_refl _
  ·have hp:=List.length_pos_iff.2 h
   have h1:=ih (l.take (l.length - 9)).length (by rw [List.length_take];omega) _ rfl
   rw [words,dif_neg h,List.length_cons]
   rw [List.length_take] at h1
   omega
theorem pt_trim (k:Nat) (l:List Int):Pt.natural_num_trim.f k l = natural_num_trim.f k l:=Pt.trim_same k l
theorem read_loop (n:Nat):∀ (s:ByteArray),s.size = n→s.size < 281474976710656→(∀ c ∈ bs s,isDig c)→∀ (out:List Int),out.length + s.size < 35184372088832→∀ j,Pt.natural_read.l0 (j + 1 + (words (bs s)).length) s out = (natural_num_trim.f j (out ++ words (bs s))).bind fun t=>some t:=by
 induction n using Nat.strongRecOn with
 | ind n ih =>
  intro s hn hb hd out ho j
  have hl:=bs_length s
  by_cases he:bs s = []
  ·have h0:s.size = 0:=by rw [← hl,he];rfl
   rw [he,words_nil,List.append_nil]
   show Pt.natural_read.l0 (j + 1) s out = _
   unfold Pt.natural_read.l0
   rw [if_neg (by omega),pt_trim]
  ·have hpos:0 < (bs s).length:=List.length_pos_iff.2 he
   have hw:words (bs s) = (pv ((bs s).drop (s.size - 9)):Int) :: words ((bs s).take (s.size - 9)):=by rw [words,dif_neg he,hl]
   have hat:mx (wrap64 ((s.size:Int) - 9)) 0 = ((s.size - 9:Nat):Int):=by
    rw [w64 (by omega) (by omega)]
    unfold mx
    split<;>omega
   have hdd:∀ c ∈ (bs s).drop (s.size - 9),isDig c:=fun c hc=>hd c (List.mem_of_mem_drop hc)
   have hlen:((bs s).drop (s.size - 9)).length≤9:=by rw [List.length_drop];omega
   have hlen1:1≤((bs s).drop (s.size - 9)).length:=by rw [List.length_drop];omega
   have hp:=parse32 _ hdd hlen1 hlen
   have hlt:=pv_lt _ hdd
   have hp9:10 ^ ((bs s).drop (s.size - 9)).length≤10 ^ 9:=Nat.pow_le_pow_right (by omega) hlen
   have hpu:Pt.strconv_ParseUint_113.f (s.extract (s.size - 9) s.size) 10 32 = some (pv ((bs s).drop (s.size - 9)):Int):=by
    unfold Pt.strconv_ParseUint_113.f
    have e1:(s.extract (s.size - 9) s.size).size≤9223372036854775806:=by rw [ByteArray.size_extract];omega
    have e2:(s.extract (s.size - 9) s.size).data.toList = (bs s).drop (s.size - 9):=bs_from s _
    rw [if_pos ⟨rfl,rfl,e1⟩,e2,hp]
   have hsz:(s.extract 0 (s.size - 9)).size = s.size - 9:=by rw [ByteArray.size_extract];omega
   have hi:=ih (s.size - 9) (by omega) (s.extract 0 (s.size - 9)) hsz (by omega) (by rw [bs_to];exact fun c hc=>hd c (List.mem_of_mem_take hc)) (out ++ [(pv ((bs s).drop (s.size - 9)):Int)]) (by rw [List.length_append,hsz];simp;omega) j
   rw [bs_to,List.append_assoc,List.singleton_append,← hw] at hi
   rw [show j + 1 + (words (bs s)).length = j + 1 + (words ((bs s).take (s.size - 9))).length + 1 by rw [hw,List.length_cons];omega]
   rw [← hi]
   generalize j + 1 + (words ((bs s).take (s.size - 9))).length = K
   conv=>lhs;unfold Pt.natural_read.l0
   rw [hat,if_pos (by omega),if_pos (by omega),if_pos (by omega),Int.toNat_natCast,hpu,Option.bind_some,if_pos (by omega),Int.emod_eq_of_lt (b:=4294967296) (by omega) (by omega)]
def nat (s:ByteArray):Nat:=pv (bs s)
theorem nat_len (s:ByteArray) (h:nv s = true):(numOf (nat s)).length≤s.size:=by
 have hn:=(nv_iff s).1 h
 have h1:=words_spec _ (bs s) rfl hn.1
 have h2:=trim_numOf (n:=nat s) h1.1 h1.2
 have h3:=len_trimL (words (bs s))
 have h4:=words_len _ (bs s) rfl
 rw [h2] at h3
 rw [bs_length] at h4
 omega
theorem read_eq (s:ByteArray) (hs:s.size≤1099511627776) (h:nv s = true):natural_read.f s = some (numOf (nat s)):=by
 have hn:=(nv_iff s).1 h
 have hw:=words_len _ (bs s) rfl
 have hl:=bs_length s
 have h1:=words_spec _ (bs s) rfl hn.1
 obtain ⟨j,hj⟩:∃ j,2 * s.size + 10 = j + 1 + (words (bs s)).length:=⟨2 * s.size + 9 - (words (bs s)).length,by omega⟩
 unfold natural_read.f Pt.natural_read.f
 rw [hj,read_loop _ s rfl (by omega) hn.1 [] (by simp;omega) j,List.nil_append]
 rw [show natural_num_trim.f j (words (bs s)) = some (trimL (words (bs s))) from (trim_k _ _ rfl (by omega) j (by omega)).1,trim_numOf (n:=nat s) h1.1 h1.2]
 rfl
theorem take_drop_snoc (l:List UInt8) (a i:Nat) (ha:a≤i) (hi:i < l.length):(l.take (i + 1)).drop a = (l.take i).drop a ++ [l.getD i 0]:=by
 rw [List.take_succ_eq_append_getElem hi,List.drop_append_of_le_length (by rw [List.length_take];omega),List.getD_eq_getElem?_getD,List.getElem?_eq_getElem hi]
 rfl
theorem from_inner (s:ByteArray) (hd:∀ c ∈ bs s,isDig c) (e a:Nat) (out:List Int) (he:e≤s.size) (hs:s.size < 1152921504606846976) (hae:e≤a + 9) (hae2:a≤e):∀ (m i:Nat),i + m = e→a≤i→∀ k,garboardref01_From.l1 (k + m) s out e (pv (((bs s).take i).drop a):Int) i = garboardref01_From.l1 k s out e (pv (((bs s).take e).drop a):Int) e:=by
 intro m
 induction m with
 | zero =>
  intro i hi hai k
  obtain rfl:i = e:=by omega
  rfl
 | succ m ih =>
  intro i hi hai k
  have hl:=bs_length s
  have h1:=ih (i + 1) (by omega) (by omega) k
  have hlt:=pv_lt (((bs s).take i).drop a) (fun c hc=>hd c (List.mem_of_mem_take (List.mem_of_mem_drop hc)))
  have hp8:10 ^ (((bs s).take i).drop a).length≤10 ^ 8:=Nat.pow_le_pow_right (by omega) (by rw [List.length_drop,List.length_take];omega)
  have hc:=hd ((bs s).getD i 0) (by
   rw [List.getD_eq_getElem?_getD,List.getElem?_eq_getElem (by omega)]
   exact List.getElem_mem _)
  unfold isDig at hc
  rw [← h1,take_drop_snoc _ _ _ hai (by omega),pv_snoc]
  generalize pv (((bs s).take i).drop a) = p at hlt ⊢
  rw [show k + (m + 1) = k + m + 1 by omega]
  conv=>lhs;unfold garboardref01_From.l1
  rw [if_pos (by omega),if_pos (by omega),if_pos (by omega),bt_get s i (by omega),wi1 i (by omega)]
  rw [Int.emod_eq_of_lt (a:=10 * (p:Int)) (by omega) (by omega),Int.emod_eq_of_lt (b:=256) (by omega) (by omega),Int.emod_eq_of_lt (b:=4294967296) (by omega) (by omega)]
  congr 1
  omega
theorem from_end (s:ByteArray) (out:List Int) (e:Int) (he:e≤0) (k:Nat):garboardref01_From.l0 (k + 1) s out e = (garboardref01_trim.f k out).bind fun t=>some t:=by
 unfold garboardref01_From.l0
 rw [if_neg (by omega)]
theorem from_loop (s:ByteArray) (hd:∀ c ∈ bs s,isDig c) (hs:s.size < 1099511627776) (n:Nat):∀ (e:Nat),e = n→e≤s.size→∀ (out:List Int),out.length + e < 35184372088832 →
  ∃ c,∀ k,garboardref01_From.l0 (k + c) s out e = (garboardref01_trim.f k (out ++ words ((bs s).take e))).bind fun t=>some t:=by
 induction n using Nat.strongRecOn with
 | ind n ih =>
  intro e he hes out ho
  have hl:=bs_length s
  by_cases h0:e = 0
  ·subst h0
   refine ⟨1,fun k=>?_⟩
   rw [List.take_zero,words_nil,List.append_nil]
   exact from_end s out 0 (by omega) k
  ·have hte:((bs s).take e).length = e:=by rw [List.length_take];omega
   have hne:(bs s).take e≠[]:=by
    intro hh
    rw [hh] at hte
    simp at hte
    omega
   have hw:words ((bs s).take e) = (pv (((bs s).take e).drop (e - 9)):Int) :: words ((bs s).take (e - 9)):=by
    rw [words,dif_neg hne,hte,List.take_take,Nat.min_eq_left (by omega)]
   have hat:mx 0 (wrap64 ((e:Int) - 9)) = ((e - 9:Nat):Int):=by
    rw [w64 (by omega) (by omega)]
    unfold mx
    split<;>omega
   have hin:=fun k=>from_inner s hd e (e - 9) out hes (by omega) (by omega) (by omega) (e - (e - 9)) (e - 9) (by omega) (by omega) k
   have hz:((bs s).take (e - 9)).drop (e - 9) = []:=by rw [List.drop_of_length_le (by rw [List.length_take];omega)]
   rw [hz] at hin
   have hout:out.length < 35184372088832:=by omega
   obtain ⟨c,hc⟩:∃ c,∀ k,garboardref01_From.l0 (k + c) s (out ++ [(pv (((bs s).take e).drop (e - 9)):Int)]) (wrap64 ((e:Int) - 9)) = (garboardref01_trim.f k (out ++ words ((bs s).take e))).bind fun t=>some t:=by
    rw [w64 (by omega) (by omega),hw]
    by_cases h9:e≤9
    ·refine ⟨1,fun k=>?_⟩
     rw [show e - 9 = 0 by omega,List.take_zero,words_nil]
     exact from_end s _ _ (by omega) k
    ·obtain ⟨c,hc⟩:=ih (e - 9) (by omega) (e - 9) rfl (by omega) (out ++ [(pv (((bs s).take e).drop (e - 9)):Int)]) (by rw [List.length_append];simp;omega)
     refine ⟨c,fun k=>?_⟩
     have h2:=hc k
     rw [List.append_assoc,List.singleton_append] at h2
     rw [show (e:Int) - 9 = ((e - 9:Nat):Int) by omega]
     exact h2
   refine ⟨c + 1 + (e - (e - 9)) + 1,fun k=>?_⟩
   rw [← hc k]
   have h3:=hin (k + c + 1)
   rw [show k + (c + 1 + (e - (e - 9)) + 1) = k + c + 1 + (e - (e - 9)) + 1 by omega]
   conv=>lhs;unfold garboardref01_From.l0
   rw [if_pos (by omega),hat]
   refine Eq.trans h3 ?_
   conv=>lhs;unfold garboardref01_From.l1
   rw [if_neg (by omega),if_pos hout]
theorem From_ev (s:ByteArray) (hs:s.size < 1099511627776) (h:nv s = true):Ev (fun k=>garboardref01_From.f k s) (numOf (nat s)):=by
 have hn:=(nv_iff s).1 h
 have hl:=bs_length s
 have hw:=words_len _ (bs s) rfl
 have h1:=words_spec _ (bs s) rfl hn.1
 obtain ⟨c,hc⟩:=from_loop s hn.1 hs s.size s.size rfl (Nat.le_refl _) [] (by simp;omega)
 rw [List.take_of_length_le (by omega),List.nil_append] at hc
 have ht:=rtrim_ev (l:=words (bs s)) (by omega)
 rw [trim_numOf (n:=nat s) h1.1 h1.2] at ht
 obtain ⟨K,hK⟩:=ht
 refine ⟨K + c,fun k hk=>?_⟩
 obtain ⟨j,rfl⟩:∃ j,k = j + c:=⟨k - c,by omega⟩
 have h2:=hK j (by omega)
 dsimp only at h2
 simp only [garboardref01_From.f]
 rw [hc j,h2]
 rfl
end Go.Proofs.YtaknchlegjcdhaaGreatDoor.Pr
namespace Go.Proofs.YtaknchlegjcdhaaGreatDoor.Pr
set_option linter.unusedVariables false
set_option linter.unusedSimpArgs false
open Go.RowKit Go.Shelf Go.Lib Go.Proofs.YtaknchlegjcdhaaGreatDoorW.PrintWords Go.Proofs.YtaknchlegjcdhaaGreatDoorW.PrintLast Go.Proofs.YtaknchlegjcdhaaGreatDoorW.PrintMore
attribute [local go_sem] Oper.semAt_some
def downs (zs:List Int) (k:Nat):List (Int × Int):=(List.range k).map fun (j:Nat)=>((zs.length:Int) - 1 - (j:Int),rd zs ((zs.length:Int) - 1 - (j:Int)))
theorem downs_succ (zs:List Int) (k:Nat):downs zs (k + 1) = downs zs k ++ [((zs.length:Int) - 1 - k,rd zs ((zs.length:Int) - 1 - k))]:=by simp [downs,List.range_succ]
theorem downs_length (zs:List Int) (k:Nat):(downs zs k).length = k:=by simp [downs]
def clI (i:Int):Int:=if 0≤i∧i < 1152921504606846976 then i else 0
def clW (x:Int):Int:=if 0≤x∧x < 1000000000 then x else 0
theorem clI_eq {i:Int} (h0:0≤i) (h:i < 1152921504606846976):clI i = i:=if_pos ⟨h0,h⟩
theorem clW_eq {x:Int} (h:0≤x∧x < 1000000000):clW x = x:=if_pos h
theorem clI_in (i:Int):0≤clI i∧clI i < 1152921504606846976:=by
 unfold clI
 split<;>omega
theorem clW_in (x:Int):0≤clW x∧clW x < 1000000000:=by
 unfold clW
 split<;>omega
def KpB (n₀ Bs:Nat) (W W':World):Prop:=Below n₀ W W'∧∀ o,W.heap[Bs]? = some o→W'.heap[Bs]? = some o
theorem KpB.t {n₀ Bs:Nat} {A B C:World} (h:KpB n₀ Bs A B) (k:KpB n₀ Bs B C):KpB n₀ Bs A C:=⟨h.1.trans k.1,fun o ho=>k.2 o (h.2 o ho)⟩
theorem KpB.b {n₀ Bs:Nat} {w:World} (hn:n₀≤w.heap.size) (hB:Bs < w.heap.size) (W:World) (l:Nat) (o o':Obj) (hl:w.heap.size≤l) (h:W.heap[l]? = some o) (h1:o.isCells = false) (h2:o.isWalk = false):KpB n₀ Bs W (W.putObj l o') :=
 ⟨belowK_b hn W l o o' hl h h1 h2,fun _ ho=>(World.putObj_heap_other (by omega)).trans ho⟩
theorem rd_in {zs:List Int} (hz:∀ x ∈ zs,0≤x∧x < 1000000000) (i:Int) (h0:0≤i) (h1:i < zs.length):0≤rd zs i∧rd zs i < 1000000000:=by
 unfold rd
 rw [List.getD_eq_getElem?_getD,List.getElem?_eq_getElem (by omega)]
 exact hz _ (List.getElem_mem _)
set_option maxRecDepth 100000 in
set_option maxHeartbeats 2000000 in
theorem back1_in (F:Fence) (n:Nat) (h79:F.fn 116) (hro:F.round = none) (hn:1≤n) (l Bs:Nat) (w0:World) (A:Option Addr) (cap:Nat) (zs:List Int) (hreach:zs.length < 1152921504606846976) (hz:∀ x ∈ zs,0≤x∧x < 1000000000) (hC:(Kd.int .u32).C w0 A zs.length zs) (J Jx:List (Int × Int)→World→Prop)
  (hY:∀ pre (x:Int × Int) W,J pre W→pre.length < zs.length→YieldAt F (n - 1) Tryz.prog l #[.int .i64 (clI x.1),.int .u32 (clW x.2)] W fun e W' =>
   (e = .returned (.bool true)∧J (pre ++ [x]) W'∧KpB w0.heap.size Bs W W') ∨ (e = .returned (.bool false)∧Jx (pre ++ [x]) W'))
  (W:World) (hW:Below w0.heap.size w0 W) (hBs:W.heap[Bs]? = some (.cells #[.slice A zs.length cap] 74 (0,0))) (h0:J [] W) :
  CallsIn F n Tryz.prog 116 #[.func (.yield l) #[] #[],.pointer (some ⟨Bs,0,none⟩)] W fun e W'=>(∃ v,e = .returned v) ∧
   ((∃ ys,ys = downs zs zs.length∧J ys W') ∨ (∃ pre,(∃ k,k≤zs.length∧pre = downs zs k)∧Jx pre W')):=by
 have hc0:W.cell? ⟨Bs,0,none⟩ = some (.slice A zs.length cap):=by rw [Lib.cell_of_heap hBs];rfl
 have hwl:wrap64 ((zs.length:Int) - 1) = (zs.length:Int) - 1:=by unfold wrap64;omega
 refine callsIn_of_wp Tryz.func116 rfl h79 ?_ hro
 simp only [Tryz.ntmps116,List.size_toArray,List.length_cons,List.length_nil,Nat.reduceAdd,Nat.reduceSub,Array.replicate_succ,Array.replicate_zero,List.push_toArray,List.append_toArray,List.nil_append,List.cons_append]
 gi_wp2
 clear hc0 hwl
 gi_loopw [3] (fun v wr=>∃ (k:Nat) (i:Int),i + 1 + k = zs.length∧-1≤i∧v = .int .i64 i∧J (downs zs k) wr∧Below w0.heap.size w0 wr∧wr.heap[Bs]? = some (.cells #[.slice A zs.length cap] 74 (0,0)))
  (fun i _=>(Go.RowKit.intOf i + 1).toNat)
 case atStart=>exact ⟨0,_,by omega,by omega,rfl,h0,hW,hBs⟩
 case round =>
  obtain ⟨k,i,hk,hi1,rfl,hJs,hnx,hBx⟩:=hrel
  have hcx:wr.cell? ⟨Bs,0,none⟩ = some (.slice A zs.length cap):=by rw [Lib.cell_of_heap hBx];rfl
  by_cases hlt:0≤i
  ·have hlt2:i < zs.length:=by omega
   obtain ⟨ad,rfl,hcell⟩:=Kd.at_int (Kd.C_below hC hnx) i hlt hlt2
   have hYi:=hY _ (i,rd zs i) wr hJs (by rw [downs_length];omega)
   dsimp only at hYi
   rw [clI_eq hlt (by omega),clW_eq (rd_in hz i hlt hlt2)] at hYi
   obtain ⟨fn,tmps,assign,body,hy,hR⟩:=hYi
   have hw1:wrap64 (i - 1) = i - 1:=by unfold wrap64;omega
   have hiE:(zs.length:Int) - 1 - k = i:=by omega
   have HiE:=Lib.hid hiE
   have HK:=Lib.hid hk
   have HW1:=Lib.hid hw1
   clear hiE hk hw1
   gi_wp2
   refine hR.mono ?_
   rintro e W3 (⟨rfl,hJ3,hk3⟩|⟨rfl,hJx3⟩)
   ·have hw1:=HW1.out
    gi_wp2
    clear hw1
    go_roundw
    case rel=>exact ⟨k + 1,i - 1,by have:=HK.out;omega,by omega,rfl,by rw [downs_succ,HiE.out];exact hJ3,hnx.trans hk3.1,hk3.2 _ hBx⟩
    case measure=>simp [Go.RowKit.intOf];omega
   ·gi_wp2
    refine bodyPost_ret (results_none rfl _ _ _) rfl ?_
    exact ⟨⟨_,rfl⟩,.inr ⟨_,⟨k + 1,by have:=HK.out;omega,by rw [downs_succ,HiE.out]⟩,hJx3⟩⟩
  ·have hkE:k = zs.length:=by omega
   gi_wp2
   go_end0
   exact ⟨⟨_,rfl⟩,.inl (by rw [← hkE];exact hJs)⟩
set_option maxHeartbeats 1000000 in
theorem back_in (F:Fence) (n:Nat) (h63:F.fn 98) (hro:F.round = none) (a:Option Addr) (len cap:Nat) (w:World) :
  CallsIn F n Tryz.prog 98 #[.slice a len cap] w fun e w'=>e = .returned (.func (.func 116) #[] #[.pointer (some ⟨w.heap.size,0,none⟩)])∧w' = w.alloc (.cells #[.slice a len cap] 74):=by
 refine callsIn_of_wp Tryz.func98 rfl h63 ?_ hro
 simp only [Tryz.ntmps98,List.size_toArray,List.length_cons,List.length_nil,Nat.reduceAdd,Nat.reduceSub,Array.replicate_succ,Array.replicate_zero,List.push_toArray,List.append_toArray,List.nil_append,List.cons_append]
 gi_wp2
 go_ret
 exact ⟨rfl,rfl⟩
theorem back_stops (F:Fence) (n:Nat) (h79:F.fn 116) (hro:F.round = none) (hn:1≤n) (Bs:Nat) (w0:World) (A:Option Addr) (cap:Nat) (zs:List Int) (hreach:zs.length < 1152921504606846976) (hz:∀ x ∈ zs,0≤x∧x < 1000000000) (hC:(Kd.int .u32).C w0 A zs.length zs) (w:World) (hw0:Below w0.heap.size w0 w)
  (hc:w.heap[Bs]? = some (.cells #[.slice A zs.length cap] 74 (0,0))) :
  SeqStopsK F n Tryz.prog 116 #[.pointer (some ⟨Bs,0,none⟩)] (fun x:Int × Int=>#[Value.int .i64 (clI x.1),Value.int .u32 (clW x.2)]) (KpB w0.heap.size Bs) (fun ys=>ys = downs zs zs.length)
   (fun pre=>∃ k,k≤zs.length∧pre = downs zs k) zs.length w:=fun l J Jx W hW _ _ hY h0=>by
 have hlt:Bs < w.heap.size:=(Array.getElem?_eq_some_iff.1 hc).1
 exact back1_in F n h79 hro hn l Bs w0 A cap zs hreach hz hC J Jx hY W (hw0.trans (hW.mono hw0.size)) ((hW.block Bs hlt).trans hc) h0
end Go.Proofs.YtaknchlegjcdhaaGreatDoor.Pr
namespace Go.Proofs
set_option linter.unusedVariables false
set_option linter.unusedSimpArgs false
open Go.Shelf Go.RowKit Go.Sort Go.Lib
theorem fin_pos0 (w:World) (o:Obj) (dk:Array UInt8) (k:Nat):∃ os,(putRow (fun (b:UInt8)=>Value.int .u8 (b.toNat:Int)) (w.alloc o) w.heap.size 0 dk).drewN k = grow (w.drewN k) os:=by
 rw [alloc_eq_grow]
 obtain ⟨os',_,e⟩:=putRow_grow_new (fun (b:UInt8)=>Value.int .u8 (b.toNat:Int)) w #[o] w.heap.size 0 dk (Nat.le_refl _)
 exact ⟨os',by rw [e];rfl⟩
set_option maxHeartbeats 6400000 in
set_option maxRecDepth 100000 in
theorem Tryz.internal_FormatUint (u:Nat) (hu64:u < 18446744073709551616) (w:World) (htab:Lib.TabIs Tryz.prog w "internal/strconv.uint64pow10" .u64 Lib.pow10Tab) :
  Calls Tryz.prog 117 #[.int .u64 u,.int .i64 10] w fun e w'=>e = .returned (.string ⟨(Lib.decDigits u).toArray⟩)∧Below w.heap.size w w':=by
 by_cases hs:u < 100
 ·have hsb:decide ((u:Int) < 100) = true:=decide_eq_true (by omega)
  have hwr:wrap64 (u:Int) = (u:Int):=by unfold wrap64;omega
  go_enter Tryz.func117,Tryz.ntmps117
  go_wp2_with (go_at_call 105;refine (Tryz.internal_strconv_small u hs _).mono ?_;rintro e w' ⟨rfl,rfl⟩)
  go_ret
  exact ⟨rfl,Below.refl _ _⟩
 ·have hsb:decide ((u:Int) < 100) = false:=decide_eq_false (by omega)
  have hu1:1≤u:=by omega
  have hnd20:Lib.nDigits u≤20:=by have:=Lib.numDigits_eq u hu1 hu64;split at this<;>omega
  have hb3:Lib.nDigits u≤24:=by omega
  have hal:Tryz.prog.arrayLen 121 = 24:=by simp [Program.arrayLen,Tryz.underlying121]
  have hsl1:∀ W,(Instr.sliceAt 121 (.pointer (some ⟨w.heap.size,0,none⟩)) none (some (.int .i64 (Lib.nDigits u:Int))) none).run Tryz.prog W = .ok (.slice (some ⟨w.heap.size,0,none⟩) (Lib.nDigits u) 24) W:=fun W=>by
   rw [run_sliceAt_array_h W 121 ⟨w.heap.size,0,none⟩ (by simp [Program.arrayLen,Program.elem,Tryz.underlying121]) .i64 (Lib.nDigits u:Int) (by omega) (by rw [hal];omega)]
   go_simp
  have hH0:=Lib.holds_zero0 w 121 (Lib.nDigits u) (by omega)
  have hfmt:=Tryz.internal_strconv_formatBase10 w.heap.size 0 24 u (Array.replicate (Lib.nDigits u) 0) (w.alloc (.cells Lib.zeros24 121)) hH0 (by rw [Array.size_replicate];exact Lib.lt_pow_nDigits u) hu64 (by rw [Array.size_replicate];omega)
  rw [Array.size_replicate] at hfmt
  have HH0:=Lib.hid hH0
  clear hH0 hal
  go_enter Tryz.func117,Tryz.ntmps117
  go_wp2_with (first
   | (go_at_call 106;refine (Tryz.internal_strconv_numDigits u hu1 hu64 _ (Lib.tabIs_alloc htab _)).mono ?_;rintro e w' ⟨rfl,rfl⟩))
  go_at_call 107
  refine hfmt.mono ?_
  rintro e w' ⟨rfl,k,v',dk,rfl,hF⟩
  have hcv:(convert 108 9 (.slice (some ⟨w.heap.size,0,none⟩) (Lib.nDigits u) 24)).run Tryz.prog ((putRow (fun (b:UInt8)=>Value.int .u8 (b.toNat:Int)) (w.alloc (.cells Lib.zeros24 121)) w.heap.size 0 dk).drewN k) = .ok (.string ⟨(Lib.decDigits u).toArray⟩) ((putRow (fun (b:UInt8)=>Value.int .u8 (b.toNat:Int)) (w.alloc (.cells Lib.zeros24 121)) w.heap.size 0 dk).drewN k):=by
   have h:=run_convert_bytes_back (P:=Tryz.prog) ((putRow (fun (b:UInt8)=>Value.int .u8 (b.toNat:Int)) (w.alloc (.cells Lib.zeros24 121)) w.heap.size 0 dk).drewN k) 108 9 5 ⟨w.heap.size,0,none⟩ 24 (Lib.decDigits u) Tryz.underlying108 Tryz.underlying5 Tryz.underlying9 (fun j hj=>by
    rw [Lib.row_is_numeral hF j hj,Lib.add_plain,World.cell?_drewN]
    exact cell?_putRow (fun (b:UInt8)=>Value.int .u8 (b.toNat:Int)) _ w.heap.size 0 _ dk HH0.out (by rw [hF.size,Array.size_replicate]) j (by rw [hF.size];rw [Lib.decDigits_length] at hj;exact hj))
   rw [Lib.decDigits_length] at h
   exact h
  go_wp2
  go_ret
  obtain ⟨os,eo⟩:=fin_pos0 w (.cells Lib.zeros24 121) dk k
  exact ⟨rfl,by rw [eo];exact below_grow _ _ (Nat.le_refl _) k os⟩
theorem Tryz.FormatUint (u:Nat) (hu64:u < 18446744073709551616) (w:World) (htab:Lib.TabIs Tryz.prog w "internal/strconv.uint64pow10" .u64 Lib.pow10Tab) :
  Calls Tryz.prog 99 #[.int .u64 u,.int .i64 10] w fun e w'=>e = .returned (.string ⟨(Lib.decDigits u).toArray⟩)∧Below w.heap.size w w':=by
 go_enter Tryz.func99,Tryz.ntmps99
 go_wp2_with (go_at_call 117;refine (Tryz.internal_FormatUint u hu64 _ htab).mono ?_;rintro e w' ⟨rfl,hb⟩)
 go_ret
 exact ⟨rfl,hb⟩
end Go.Proofs
namespace Go.Proofs
open Go.Shelf
theorem Tryz.lays166:Go.Proofs.Lays.n166 Tryz.prog Tryz.lays105_ren:={
 mixed:=by kernel_rfl
 f166:=Tryz.func100.trans (congrArg some (by kernel_rfl))
 f240:=Tryz.func118.trans (congrArg some (by kernel_rfl))
 f276:=Tryz.func132.trans (congrArg some (by kernel_rfl))
 t0:=Tryz.underlying0
 a0:=Tryz.isAgg0
 z0:=Tryz.sizeOf0
 v0:=Tryz.zeroValue0
 t3:=Tryz.underlying3
 a3:=Tryz.isAgg3
 z3:=Tryz.sizeOf3
 v3:=Tryz.zeroValue3
 t4:=Tryz.underlying4
 a4:=Tryz.isAgg4
 z4:=Tryz.sizeOf4
 v4:=Tryz.zeroValue4
 t9:=Tryz.underlying9
 a9:=Tryz.isAgg9
 z9:=Tryz.sizeOf9
 v9:=Tryz.zeroValue9
 t20:=Tryz.underlying20
 a20:=Tryz.isAgg20
 z20:=Tryz.sizeOf20
 v20:=Tryz.zeroValue20
 t37:=Tryz.underlying108
 a37:=Tryz.isAgg108
 z37:=Tryz.sizeOf108
 v37:=Tryz.zeroValue108
 t70:=Tryz.underlying107
 a70:=Tryz.isAgg107
 z70:=Tryz.sizeOf107
 v70:=Tryz.zeroValue107
 t72:=Tryz.underlying110
 a72:=Tryz.isAgg110
 z72:=Tryz.sizeOf110
 v72:=Tryz.zeroValue110
 t75:=Tryz.underlying116
 a75:=Tryz.isAgg116
 z75:=Tryz.sizeOf116
 v75:=Tryz.zeroValue116
 t164:=Tryz.underlying145
 a164:=Tryz.isAgg145
 z164:=Tryz.sizeOf145
 v164:=Tryz.zeroValue145 }
open Go.RowKit Go.Lib in
theorem Tryz.Builder_WriteString_k (B b:Nat) (bs:List Value) (s:ByteArray) (w:World) (h:Lib.IsBuilderF 110 5 B b bs w) (hlen:bs.length + s.size≤140737488355328) (hBw:B≤w.heap.size) :
  Calls Tryz.prog 100 #[.pointer (some ⟨b,0,none⟩),.string s] w fun e w'=>e = .returned (.tuple #[.int .i64 s.size,.nilIface])∧(Lib.BuilderAtF 110 5 B b (.pointer (some ⟨b,0,none⟩)) (bs ++ Lib.strCells s) w'∧Below B w w'∧Lib.OthersKept 5 (some b) w w'):=Any.Builder_WriteString_k Tryz.lays166 Tryz.Builder_Extra_105 B b bs s w h hlen hBw
end Go.Proofs
namespace Go.Proofs.YtaknchlegjcdhaaGreatDoor.Pr
set_option linter.unusedVariables false
set_option linter.unusedSimpArgs false
open Go.RowKit Go.Lib Go.Proofs.YtaknchlegjcdhaaGreatDoorW.PrintWords Go.Proofs.YtaknchlegjcdhaaGreatDoorW.PrintLast Go.Proofs.YtaknchlegjcdhaaGreatDoorW.PrintMore
def strings_Repeat.f (s:ByteArray) (c:Int):Option ByteArray :=
 if 0≤c∧c≤9223372036854775807∧s.size * c.toNat≤140737488355328 then some ⟨(Lib.repeatL s.data.toList c.toNat).toArray⟩ else none
theorem strings_Repeat.calls (a0:ByteArray) (a1:Int) (r:ByteArray) (w:World) (h:strings_Repeat.f a0 a1 = some r) :
  Calls Tryz.prog 101 #[.string a0,.int .i64 a1] w fun e w'=>e = .returned (.string r)∧Below w.heap.size w w':=by
 unfold strings_Repeat.f at h
 by_cases hc:0≤a1∧a1≤9223372036854775807∧a0.size * a1.toNat≤140737488355328
 case neg=>rw [if_neg hc] at h;cases h
 rw [if_pos hc] at h
 injection h with h
 subst h
 obtain ⟨n,rfl⟩:=Int.eq_ofNat_of_zero_le hc.1
 have h2:=hc.2.2
 have h1:=hc.2.1
 simp only [Int.toNat_natCast] at h2 ⊢
 exact Tryz.strings_Repeat a0 n w (by omega) h2
end Go.Proofs.YtaknchlegjcdhaaGreatDoor.Pr
namespace Go.Proofs.YtaknchlegjcdhaaGreatDoor.Pr
set_option linter.unusedVariables false
set_option linter.unusedSimpArgs false
open Go.RowKit Go.Shelf Go.Lib Go.Proofs.YtaknchlegjcdhaaGreatDoor.NatTh Go.Proofs.YtaknchlegjcdhaaGreatDoorW.PrintWords Go.Proofs.YtaknchlegjcdhaaGreatDoorW.PrintLast Go.Proofs.YtaknchlegjcdhaaGreatDoorW.PrintMore
def piece (len:Int) (x:Int × Int):List UInt8:=(if clI x.1 < len - 1 then List.replicate (9 - (decDigits (clW x.2).toNat).length) 48 else []) ++ decDigits (clW x.2).toNat
def accT (len:Int) (pre:List (Int × Int)):List UInt8:=pre.foldl (fun a x=>a ++ piece len x) []
theorem accT_snoc (len:Int) (pre:List (Int × Int)) (x:Int × Int):accT len (pre ++ [x]) = accT len pre ++ piece len x:=by simp [accT]
theorem dec_len (v:Nat) (h:v < 1000000000):(decDigits v).length≤9:=by
 rw [decDigits_length]
 exact nDigits_le 9 v (by omega) (by omega)
theorem piece_len (len:Int) (x:Int × Int):(piece len x).length≤9:=by
 have h:=dec_len (clW x.2).toNat (by have:=clW_in x.2;omega)
 unfold piece
 rw [List.length_append]
 split
 ·rw [List.length_replicate];omega
 ·simpa using h
theorem accT_len (len:Int) (pre:List (Int × Int)):(accT len pre).length≤9 * pre.length:=by
 suffices H:∀ (n:Nat) (pre:List (Int × Int)),pre.length = n→(accT len pre).length≤9 * n from H _ pre rfl
 intro n
 induction n with
 | zero =>
  intro pre h
  have:pre = []:=List.eq_nil_of_length_eq_zero h
  subst this
  simp [accT]
 | succ n ih =>
  intro pre h
  rcases List.eq_nil_or_concat pre with rfl|⟨a,c,rfl⟩
  ·simp at h
  ·rw [List.concat_eq_append] at h ⊢
   rw [accT_snoc,List.length_append]
   have h1:=ih a (by simpa using h)
   have h2:=piece_len len c
   omega
theorem accT_downs (zs:List Int) (hz:∀ x ∈ zs,0≤x∧x < 1000000000) (hb:zs.length < 1152921504606846976):∀ k,k≤zs.length→accT zs.length (downs zs k) = txt (zs.drop (zs.length - k)):=by
 intro k
 induction k with
 | zero =>
  intro _
  rw [Nat.sub_zero,List.drop_length]
  rfl
 | succ k ih =>
  intro hk
  rw [downs_succ,accT_snoc,ih (by omega)]
  have hi:zs.length - (k + 1) < zs.length:=by omega
  have e1:((zs.length:Int) - 1 - k) = ((zs.length - (k + 1):Nat):Int):=by omega
  have e2:rd zs ((zs.length:Int) - 1 - k) = zs[zs.length - (k + 1)]:=by
   rw [e1]
   unfold rd
   rw [Int.toNat_natCast,List.getD_eq_getElem?_getD,List.getElem?_eq_getElem hi]
   rfl
  have hw:=hz _ (List.getElem_mem hi)
  rw [List.drop_eq_getElem_cons hi,show zs.length - (k + 1) + 1 = zs.length - k by omega]
  unfold piece
  simp only []
  rw [e2,clW_eq hw,e1,clI_eq (by omega) (by omega)]
  generalize zs[zs.length - (k + 1)] = z at hw ⊢
  by_cases h0:k = 0
  ·subst h0
   rw [Nat.sub_zero,List.drop_length,if_neg (by omega)]
   rfl
  ·rw [if_pos (by omega)]
   obtain ⟨y,l,hy⟩:∃ y l,zs.drop (zs.length - k) = y :: l:=List.exists_cons_of_ne_nil (by
    intro e
    have:=congrArg List.length e
    rw [List.length_drop] at this
    simp at this
    omega)
   rw [hy,txt,← hy,pad_eq 9 z.toNat (by omega) (by omega)]
theorem grown_below {w w':World} (h:Below w.heap.size w w'):w.grownBy w' none:=⟨h.os,h.tape,h.output,h.size,fun k hk _=>h.block k hk⟩
theorem builder_kept {B b:Nat} {bs:List Value} {w w':World} {row:Option Nat} (h:Lib.IsBuilderF 110 5 B b bs w) (hg:w.grownBy w' row) (hr:∀ r,row = some r→∃ o:Obj,w.heap[r]? = some o∧o.isCells = false):Lib.IsBuilderF 110 5 B b bs w':=by
 have key:∀ p,Lib.BuilderAtF 110 5 B b p bs w→Lib.BuilderAtF 110 5 B b p bs w':=by
  rintro p ⟨hB,v,hb,hown,hne⟩
  have nr:∀ k c t fz,w.heap[k]? = some (.cells c t fz)→some k≠row:=fun k c t fz hk e=>by
   obtain ⟨o,ho,hc⟩:=hr k e.symm
   rw [hk] at ho
   cases ho
   simp [Obj.isCells] at hc
  refine ⟨hB,v,(hg.block b (Array.getElem?_eq_some_iff.1 hb).1 (nr _ _ _ _ hb)).trans hb,hown.kept hg ?_,hne⟩
  cases hv:v.ownBlock with
  | none=>exact .inl rfl
  | some g =>
   obtain ⟨c,fz,hgc⟩:=Lib.ownsRowF_kind hown g hv
   exact .inr (nr _ _ _ _ hgc)
 exact h.elim (fun x=>.inl (key _ x)) (fun x=>.inr (key _ x))
theorem heap_kept {k:Nat} {c:Array Value} {t:TypeId} {fz:Nat × Nat} {w w':World} {row:Option Nat} (hk:w.heap[k]? = some (.cells c t fz)) (hg:w.grownBy w' row) (hr:∀ r,row = some r→∃ o:Obj,w.heap[r]? = some o∧o.isCells = false):w'.heap[k]? = w.heap[k]? :=
 hg.block k (Array.getElem?_eq_some_iff.1 hk).1 (fun e=>by
  obtain ⟨o,ho,hc⟩:=hr k e.symm
  rw [hk] at ho
  cases ho
  simp [Obj.isCells] at hc)
theorem builder_below {B b:Nat} {bs:List Value} {w w':World} (h:Lib.IsBuilderF 110 5 B b bs w) (hb:Below w.heap.size w w'):Lib.IsBuilderF 110 5 B b bs w':=builder_kept h (grown_below hb) (fun r e=>by cases e)
structure StepT (b:Nat) (W W':World):Prop where
 others:Lib.OthersKept 5 (some b) W W'
 below:Below b W W'
theorem StepT.of_below {b:Nat} {W W':World} (h:Below W.heap.size W W') (hb:b≤W.heap.size):StepT b W W' :=
 ⟨fun k o hk _ _=>(h.block k (Array.getElem?_eq_some_iff.1 hk).1).trans hk,h.mono hb⟩
theorem StepT.trans {b:Nat} {A B C:World} (h:StepT b A B) (k:StepT b B C):StepT b A C:=⟨h.others.trans k.others,h.below.trans k.below⟩
theorem builder_heap {T e:TypeId} {B b:Nat} {bs:List Value} {w:World} (h:Lib.IsBuilderF T e B b bs w):∃ c,w.heap[b]? = some (.cells c T (0,0)):=by
 rcases h with ⟨_,v,hb,_⟩|⟨_,v,hb,_⟩
 ·exact ⟨_,hb⟩
 ·exact ⟨_,hb⟩
theorem StepT.keeps {b:Nat} {W W':World} {c:Array Value} {t:TypeId} {fz:Nat × Nat} (h:StepT b W W') (hb:W.heap[b]? = some (.cells c t fz)):KeepsOthers W W' :=
 ⟨h.below.size,fun k o hk ho=>h.others k o hk (fun e=>by
  injection e with e
  subst e
  rw [hb] at hk
  cases hk
  simp [Obj.isCells] at ho) (fun c fz e=>by
  subst e
  simp [Obj.isCells] at ho)⟩
end Go.Proofs.YtaknchlegjcdhaaGreatDoor.Pr
namespace Go.Proofs.YtaknchlegjcdhaaGreatDoor.Pr
set_option linter.unusedVariables false
set_option linter.unusedSimpArgs false
open Go.RowKit Go.Shelf Go.Lib Go.Proofs.YtaknchlegjcdhaaGreatDoor.NatTh Go.Proofs.YtaknchlegjcdhaaGreatDoorW.PrintWords Go.Proofs.YtaknchlegjcdhaaGreatDoorW.PrintLast Go.Proofs.YtaknchlegjcdhaaGreatDoorW.PrintMore
attribute [local go_sem] Oper.semAt_some
def natural_num_text.f (l:List Int):Option ByteArray :=
 if l.length≤1099511627776∧(∀ x ∈ l,0≤x∧x < 1000000000) then some ⟨(text l).toArray⟩ else none
theorem repeatL_one (c:UInt8) (n:Nat):Lib.repeatL [c] n = List.replicate n c:=by
 induction n with
 | zero=>rfl
 | succ n ih=>simp_all [Lib.repeatL,List.replicate_succ]
set_option maxRecDepth 100000 in
set_option maxHeartbeats 2000000 in
theorem text_walk (A0:Option Addr) (c0:Nat) (l0:List Int) (w:World) (hlen:l0.length≤1099511627776) (hz:∀ x ∈ l0,0≤x∧x < 1000000000) (hne:l0≠[]) (hr0:Kd.C (Kd.int .u32) w A0 l0.length l0) (hL:LaidW w) :
  Calls Tryz.prog 70 #[.slice A0 l0.length c0] w fun e w'=>e = .returned (.string ⟨(txt l0).toArray⟩)∧Below w.heap.size w w':=by
 have hpos:0 < l0.length:=List.length_pos_iff.2 hne
 have hb0:((l0.length:Int) == 0) = false:=by simpa using (by omega:¬ l0.length = 0)
 have hb1:decide ((l0.length:Int) = 0) = false:=by simpa using (by omega:¬ l0.length = 0)
 refine (callsIn_wide (n:=3)).1 ?_
 refine callsIn_of_wp_marks Tryz.func70 rfl trivial ?_ rfl
 simp only [Tryz.ntmps70,List.size_toArray,List.length_cons,List.length_nil,Nat.reduceAdd,Nat.reduceSub,Array.replicate_succ,Array.replicate_zero,List.push_toArray,List.append_toArray,List.nil_append,List.cons_append]
 gi_wp2_with (refine ⟨trivial,?_⟩;gi_at_call 98;refine (back_in Fence.wide _ trivial rfl _ _ _ _).mono ?_;rintro e w' ⟨rfl,rfl⟩)
 obtain ⟨W0,hW0⟩:∃ W0,((w.alloc (.cells #[.slice A0 l0.length c0] 74)).alloc (.cells #[.pointer none,.slice none 0 0] 110)).alloc (.cells #[.slice A0 l0.length c0] 74) = W0:=⟨_,rfl⟩
 have hsz:W0.heap.size = w.heap.size + 3:=by rw [← hW0];simp
 have hB0:Below w.heap.size w W0:=by
  rw [← hW0]
  exact (((Below.refl _ w).alloc (Nat.le_refl _) _).alloc (by simp) _).alloc (by simp;omega) _
 have hc0:W0.heap[w.heap.size]? = some (.cells #[.slice A0 l0.length c0] 74 (0,0)):=by
  rw [← hW0]
  exact (Below.heap_alloc _ _ _ (by simp;omega)).trans ((Below.heap_alloc _ _ _ (by simp)).trans (World.alloc_heap_new w _))
 have hc2:W0.heap[w.heap.size + 1 + 1]? = some (.cells #[.slice A0 l0.length c0] 74 (0,0)):=by
  rw [← hW0]
  have:=World.alloc_heap_new ((w.alloc (.cells #[.slice A0 l0.length c0] 74)).alloc (.cells #[.pointer none,.slice none 0 0] 110)) (.cells #[.slice A0 l0.length c0] 74)
  rwa [World.size_alloc,World.size_alloc] at this
 have hbld:Lib.IsBuilderF 110 5 (w.heap.size + 1) (w.heap.size + 1) (Lib.byteCells (accT l0.length [])) W0:=by
  rw [← hW0]
  refine Lib.IsBuilderF.alloc ?_ _
  have hn:=World.alloc_heap_new (w.alloc (.cells #[.slice A0 l0.length c0] 74)) (.cells #[.pointer none,.slice none 0 0] 110)
  rw [World.size_alloc] at hn
  refine .inl ⟨Nat.le_refl _,.slice none 0 0,hn,World.ownsRowF_nil _ _ _ _,by simp [Value.ownBlock]⟩
 rw [hW0]
 refine wpIn_rangeFunc_ownF rfl (by omega) (gf:=116) (lb:=#[.pointer (some ⟨w.heap.size + 1 + 1,0,none⟩)]) rfl trivial (enters_of Tryz.func116 (by kernel_rfl) rfl)
  (back_stops Fence.wide _ trivial rfl (by omega) (w.heap.size + 1 + 1) w A0 c0 l0 (by omega) hz hr0 W0 hB0 hc2) KpB.t (KpB.b (by omega) (by omega)) (Below.refl _ _) (fun _=>rfl)
  (fun pre W=>(Lib.IsBuilderF 110 5 (w.heap.size + 1) (w.heap.size + 1) (Lib.byteCells (accT l0.length pre)) W∧W.heap[w.heap.size]? = some (.cells #[.slice A0 l0.length c0] 74 (0,0))∧W.heap[w.heap.size + 1 + 1]? = some (.cells #[.slice A0 l0.length c0] 74 (0,0)))∧Below w.heap.size w W)
  (fun _ _ _=>False)
  (OwnFrom.and (Own.from (fun s A B row hs hg hr=>⟨builder_kept hs.1 hg hr,(heap_kept hs.2.1 hg hr).trans hs.2.1,(heap_kept hs.2.2 hg hr).trans hs.2.2⟩) _) (ownFrom_below (Nat.le_refl _) (by omega)))
  (fun _ _ _ _ _ hs _ _=>hs)
  ⟨⟨hbld,hc0,hc2⟩,hB0⟩
  (fun x=>{ tmps:=#[Value.slice A0 l0.length c0,Value.pointer (some { block:=w.heap.size,off:=0 }),
     Value.string { data:=#[] },Value.pointer (some { block:=w.heap.size + 1,off:=0 }),.int .i64 (clI x.1),.int .u32 (clW x.2),
     undef,Value.slice A0 l0.length c0,Value.int IntKind.i64 l0.length,Value.bool false,
     Value.slice A0 l0.length c0,
     Value.func (Fn.func 116) #[] #[Value.pointer (some { block:=w.heap.size + 1 + 1,off:=0 })],.int .i64 (clI x.1),.int .u32 (clW x.2),
     undef,undef,undef,undef,undef,undef,undef,undef,undef,undef,undef,undef,undef,undef,undef,
     undef],defers:=[] }) ?assign ?body ?done ?stop
 case assign =>
  intro l x W K hK
  gi_wp2
  exact hK
 case body =>
  rintro l pre x W ⟨⟨hI,hk0,hk2⟩,hB⟩ hlt
  have hal:=accT_len l0.length pre
  have hpl:=piece_len l0.length x
  have hps:piece l0.length x = (if clI x.1 < (l0.length:Int) - 1 then List.replicate (9 - (decDigits (clW x.2).toNat).length) 48 else []) ++ decDigits (clW x.2).toNat:=rfl
  have hacc:=accT_snoc l0.length pre x
  have hi:=clI_in x.1
  have hwd:=clW_in x.2
  generalize clI x.1 = i at *
  obtain ⟨v,hv⟩:∃ v:Nat,clW x.2 = v:=⟨(clW x.2).toNat,by omega⟩
  rw [hv] at hwd hps ⊢
  rw [Int.toNat_natCast] at hps
  obtain ⟨sv,hsv⟩:∃ sv:ByteArray,sv = ⟨(decDigits v).toArray⟩:=⟨_,rfl⟩
  have hsl:sv.size = (decDigits v).length:=by rw [hsv];rfl
  have hsc:Lib.strCells sv = Lib.byteCells (decDigits v):=by rw [hsv];rfl
  have hdl:=dec_len v (by omega)
  have hLW:LaidW W:=hL.below hB
  have hF:Calls Tryz.prog 99 #[.int .u64 v,.int .i64 10] W fun e w'=>e = .returned (.string sv)∧Below W.heap.size W w':=by
   rw [hsv]
   exact Tryz.FormatUint v (by omega) W hLW
  have hwr:IntKind.u64.wrap (v:Int) = v:=by rw [IntKind.wrap_u64];omega
  have hwl:wrap64 ((l0.length:Int) - 1) = (l0.length:Int) - 1:=by unfold wrap64;omega
  have hcell0:W.cell? ⟨w.heap.size,0,none⟩ = some (.slice A0 l0.length c0):=by rw [Lib.cell_of_heap hk0];rfl
  have HI:=Lib.hid hI
  have HPS:=Lib.hid hps
  have HACC:=Lib.hid hacc
  have HSL:=Lib.hid hsl
  have HSC:=Lib.hid hsc
  have HV:=Lib.hid hv
  clear hI hps hacc hsl hsc hv hsv
  have hBW:w.heap.size + 1≤W.heap.size:=by
   have:=(Array.getElem?_eq_some_iff.1 hk2).1
   omega
  have hfin:∀ (W5:World) (new:List UInt8),StepT (w.heap.size + 1) W W5→Lib.IsBuilderF 110 5 (w.heap.size + 1) (w.heap.size + 1) (Lib.byteCells (accT l0.length pre) ++ Lib.byteCells new) W5→new = piece l0.length x →
    KeepsOthers W W5∧KpB w.heap.size (w.heap.size + 1 + 1) W W5∧(Lib.IsBuilderF 110 5 (w.heap.size + 1) (w.heap.size + 1) (Lib.byteCells (accT l0.length (pre ++ [x]))) W5∧W5.heap[w.heap.size]? = some (.cells #[.slice A0 l0.length c0] 74 (0,0))∧W5.heap[w.heap.size + 1 + 1]? = some (.cells #[.slice A0 l0.length c0] 74 (0,0)))∧Below w.heap.size w W5:=by
   intro W5 new hst hb5 hnew
   obtain ⟨cb,hcb⟩:=builder_heap HI.out
   have k2:=hst.others _ _ hk2 (by simp) (by intro c fz e;cases e)
   have hb':=hst.below.mono (Nat.le_succ w.heap.size)
   refine ⟨hst.keeps hcb,⟨hb',fun o ho=>?_⟩,⟨?_,(hst.below.block _ (by omega)).trans hk0,k2⟩,hB.trans hb'⟩
   ·rw [hk2] at ho
    cases ho
    exact k2
   ·rw [HACC.out,byteCells_append,← hnew]
    exact hb5
  by_cases hlt1:i < (l0.length:Int) - 1
  ·have hd1:decide (i < (l0.length:Int) - 1) = true:=decide_eq_true hlt1
   have hwz:wrap64 (9 - (sv.size:Int)) = 9 - (sv.size:Int):=by
    have:=HSL.out
    unfold wrap64
    omega
   obtain ⟨rs,hrs⟩:∃ rs:ByteArray,rs = ⟨(Lib.repeatL [48] (9 - sv.size)).toArray⟩:=⟨_,rfl⟩
   have hrl:Lib.repeatL [48] (9 - sv.size) = List.replicate (9 - sv.size) 48:=repeatL_one _ _
   have hrz:rs.size = 9 - sv.size:=by
    rw [hrs,hrl]
    show (List.replicate (9 - sv.size) (48:UInt8)).toArray.size = _
    rw [List.size_toArray,List.length_replicate]
   have hrc:Lib.strCells rs = Lib.byteCells (List.replicate (9 - sv.size) 48):=by rw [hrs,hrl];rfl
   have hR:∀ W2,Calls Tryz.prog 101 #[.string ⟨#[48]⟩,.int .i64 (9 - (sv.size:Int))] W2 fun e w'=>e = .returned (.string rs)∧Below W2.heap.size W2 w':=fun W2=>by
    have:=HSL.out
    refine strings_Repeat.calls ⟨#[48]⟩ (9 - (sv.size:Int)) rs W2 ?_
    unfold strings_Repeat.f
    rw [if_pos ⟨by omega,by omega,by
     rw [show (⟨#[48]⟩:ByteArray).size = 1 from rfl]
     omega⟩,hrs,show (9 - (sv.size:Int)).toNat = 9 - sv.size by omega]
   have HRZ:=Lib.hid hrz
   have HRC:=Lib.hid hrc
   clear hrl hrz hrc hrs
   gi_wp2_with (first|(refine ⟨trivial,?_⟩;gi_at_call 99;refine (CallsIn.inRound l (callsIn_wide.2 hF)).mono ?_;rintro e W2 ⟨rfl,hb2⟩;have hcw2:=(hb2.cell (p:=⟨w.heap.size,0,none⟩) (Array.getElem?_eq_some_iff.1 hk0).1).trans hcell0;have HI2:=Lib.hid (builder_below HI.out hb2);have HB2:=Lib.hid hb2;clear hb2))
   (refine ⟨trivial,?_⟩;gi_at_call 101;refine (CallsIn.inRound l (callsIn_wide.2 (hR _))).mono ?_;rintro e W3 ⟨rfl,hb3⟩)
   have HI3:=Lib.hid (builder_below HI2.out hb3)
   have HB3:=Lib.hid hb3
   clear hb3 hcw2 hwz
   gi_wp2_with fail
   (refine ⟨trivial,?_⟩;gi_at_call 100;refine (CallsIn.inRound l (callsIn_wide.2 (Tryz.Builder_WriteString_k _ _ _ rs _ HI3.out (by rw [byteCells_length,HRZ.out];omega) (by have:=HB2.out.size;have:=HB3.out.size;omega)))).mono ?_;rintro e W4 ⟨rfl,hA4,hb4,ho4⟩)
   have HI4:=Lib.hid (.inr hA4:Lib.IsBuilderF 110 5 (w.heap.size + 1) (w.heap.size + 1) _ W4)
   have HB4:=Lib.hid hb4
   have HO4:=Lib.hid ho4
   clear hA4 hb4 ho4
   gi_wp2_with fail
   (refine ⟨trivial,?_⟩;gi_at_call 100;refine (CallsIn.inRound l (callsIn_wide.2 (Tryz.Builder_WriteString_k _ _ _ sv _ HI4.out (by rw [List.length_append,byteCells_length,Lib.strCells_length,HRZ.out];have:=HSL.out;omega) (by have:=HB2.out.size;have:=HB3.out.size;have:=HB4.out.size;omega)))).mono ?_;rintro e W5 ⟨rfl,hA5,hb5,ho5⟩)
   have HA5:=Lib.hid hA5
   have HB5:=Lib.hid hb5
   have HO5:=Lib.hid ho5
   clear hA5 hb5 ho5
   gi_wp2
   refine hfin W5 (List.replicate (9 - sv.size) 48 ++ decDigits v) ?_ ?_ ?_
   ·exact (((StepT.of_below HB2.out hBW).trans (StepT.of_below HB3.out (by have:=HB2.out.size;omega))).trans ⟨HO4.out,HB4.out⟩).trans ⟨HO5.out,HB5.out⟩
   ·rw [byteCells_append,← HRC.out,← HSC.out,← List.append_assoc]
    exact .inr HA5.out
   ·rw [HPS.out,if_pos hlt1,HSL.out]
  ·have hd1:decide (i < (l0.length:Int) - 1) = false:=decide_eq_false hlt1
   gi_wp2_with (first|(refine ⟨trivial,?_⟩;gi_at_call 99;refine (CallsIn.inRound l (callsIn_wide.2 hF)).mono ?_;rintro e W2 ⟨rfl,hb2⟩;have hcw2:=(hb2.cell (p:=⟨w.heap.size,0,none⟩) (Array.getElem?_eq_some_iff.1 hk0).1).trans hcell0;have HI2:=Lib.hid (builder_below HI.out hb2);have HB2:=Lib.hid hb2;clear hb2))
   (refine ⟨trivial,?_⟩;gi_at_call 100;refine (CallsIn.inRound l (callsIn_wide.2 (Tryz.Builder_WriteString_k _ _ _ sv _ HI2.out (by rw [byteCells_length];have:=HSL.out;omega) (by have:=HB2.out.size;omega)))).mono ?_;rintro e W5 ⟨rfl,hA5,hb5,ho5⟩)
   have HA5:=Lib.hid hA5
   have HB5:=Lib.hid hb5
   have HO5:=Lib.hid ho5
   clear hA5 hb5 ho5 hcw2
   gi_wp2
   refine hfin W5 (decDigits v) ?_ ?_ ?_
   ·exact (StepT.of_below HB2.out hBW).trans ⟨HO5.out,HB5.out⟩
   ·rw [← HSC.out]
    exact .inr HA5.out
   ·rw [HPS.out,if_neg (by omega),List.nil_append]
 case done =>
  rintro D ys W hD rfl ⟨⟨hI,hk0,hk2⟩,hB⟩ hK
  have hDlt:=(Array.getElem?_eq_some_iff.1 hK).1
  obtain ⟨cb,hcb⟩:=builder_heap hI
  have HI:=Lib.hid hI
  have HB:=Lib.hid hB
  clear hI hB
  gi_wp2_with (first|(refine ⟨trivial,?_⟩;gi_at_call 102;refine (callsIn_wide.2 (Tryz.Builder_String_any_k _ _ _ _ HI.out (by omega))).mono ?_;rintro e W2 ⟨rfl,_,hb2,ho2⟩;have HB2:=Lib.hid hb2;have HO2:=Lib.hid ho2;clear hb2 ho2))
  have hK2:W2.heap[D]? = some (.deferred (some [])):=HO2.out D _ hK (fun e=>by
   injection e with e
   subst e
   rw [hcb] at hK
   cases hK) (fun c fz e=>by cases e)
  refine ⟨by simp,.inl ⟨_,_,rfl,run_takeDeferred hK2,?_⟩⟩
  refine ⟨_,results_tmp rfl _ _ _,?_,(HB.out.trans (HB2.out.mono (Nat.le_succ _))).trans (belowK_b (w:=w) (Nat.le_refl _) W2 D _ _ (by omega) hK2 rfl rfl)⟩
  rw [accT_downs l0 hz (by omega) l0.length (Nat.le_refl _),Nat.sub_self,List.drop_zero]
  rfl
 case stop =>
  rintro D c pre W _ _ h _
  exact h.elim
set_option maxHeartbeats 1000000 in
theorem natural_num_text.calls (A0:Option Addr) (c0:Nat) (l0:List Int) (r:ByteArray) (w:World) (hr0:Kd.C (Kd.int .u32) w A0 l0.length l0) (hc0:l0.length≤c0) (hL:LaidW w) (h:natural_num_text.f l0 = some r) :
  Calls Tryz.prog 70 #[.slice A0 l0.length c0] w fun e w'=>e = .returned (.string r)∧Below w.heap.size w w':=by
 unfold natural_num_text.f at h
 by_cases hc:l0.length≤1099511627776∧(∀ x ∈ l0,0≤x∧x < 1000000000)
 case neg=>rw [if_neg hc] at h;cases h
 rw [if_pos hc] at h
 injection h with h
 subst h
 by_cases hne:l0 = []
 ·subst hne
  have ht:text [] = [48]:=rfl
  rw [ht]
  clear hr0 hc hc0
  go_enter Tryz.func70,Tryz.ntmps70
  go_wp2
  go_ret
  exact ⟨rfl,(Below.refl _ _).alloc (Nat.le_refl _) _⟩
 ·have ht:text l0 = txt l0:=by
   unfold text
   rw [if_neg hne]
  rw [ht]
  exact text_walk A0 c0 l0 w hc.1 hc.2 hne hr0 hL
end Go.Proofs.YtaknchlegjcdhaaGreatDoor.Pr
namespace Go.Proofs.YtaknchlegjcdhaaGreatDoor.Pr
open Go.RowKit Go.Proofs.YtaknchlegjcdhaaGreatDoorW.PrintWords Go.Proofs.YtaknchlegjcdhaaGreatDoorW.PrintLast Go.Proofs.YtaknchlegjcdhaaGreatDoorW.PrintMore
attribute [local go_sem] max2_int min2_int max_two min_two max_three min_three max_four min_four
set_option maxHeartbeats 8000000
set_option maxRecDepth 100000
set_option linter.unusedVariables false
set_option linter.unusedSimpArgs false
mutual
def garboardref01_To.l0:Nat→List Int→List Int→Int→Option (ByteArray)
 | 0,_,_,_=>none
 | k + 1,x0,x3,x4=>if x4 < (x0.length:Int) then (if 0≤x4 then (garboardref01_To.l1 k x0 x3 x4 (rd x0 x4) 0) else (none)) else (garboardref01_To.l2 k x3 0 (wrap64 ((x3.length:Int) - 1)))
def garboardref01_To.l1:Nat→List Int→List Int→Int→Int→Int→Option (ByteArray)
 | 0,_,_,_,_,_=>none
 | k + 1,x0,x3,x4,x5,x6=>if x6 < 9 then (if (wrap64 (x4 + 1)) < (x0.length:Int) then (if x3.length < 140737488355328 then (garboardref01_To.l1 k x0 (x3 ++ [((48 + (Int.tmod x5 10)) % 4294967296) % 256]) x4 ((Int.tdiv x5 10) % 4294967296) (wrap64 (x6 + 1))) else (none)) else (if x5 > 0 then (if x3.length < 140737488355328 then (garboardref01_To.l1 k x0 (x3 ++ [((48 + (Int.tmod x5 10)) % 4294967296) % 256]) x4 ((Int.tdiv x5 10) % 4294967296) (wrap64 (x6 + 1))) else (none)) else (garboardref01_To.l0 k x0 x3 (wrap64 (x4 + 1))))) else (garboardref01_To.l0 k x0 x3 (wrap64 (x4 + 1)))
def garboardref01_To.l2:Nat→List Int→Int→Int→Option (ByteArray)
 | 0,_,_,_=>none
 | k + 1,x3,x7,x8=>if x7 < x8 then (if 0≤x8 then (if x8 < (x3.length:Int) then (if 0≤x7 then (if x7 < (x3.length:Int) then (garboardref01_To.l2 k ((x3.set (x7:Int).toNat (rd x3 x8)).set (x8:Int).toNat (rd x3 x7)) (wrap64 (x7 + 1)) (wrap64 (x8 - 1))) else (none)) else (none)) else (none)) else (none)) else (some (strOfNums x3))
end
def garboardref01_To.f (k:Nat) (l0:List Int):Option (ByteArray):=if (l0.length:Int) = 0 then (some (⟨#[48]⟩:ByteArray)) else (garboardref01_To.l0 k l0 ([]:List Int) 0)
def garboardref01_To.T16:Bool × List (List Nat × List Nat):=(true,[([],[]),([],[]),([],[]),([],[]),([],[]),([],[]),([4,5],[4,5]),([6],[6]),([],[]),([],[]),([8,9],[8,9]),([10],[10]),([0,1,0,1,4,5,6,7,11],[0,1]),([12,7,0,1,4,5,6,7,11],[7,12]),([2,3,0,1,2,3,4,5,6,7,8,9,10,11,12,13],[2,3]),([14,11,13,0,1,2,3,4,5,6,7,8,9,10,11,12,13],[11,14])])
def garboardref01_To.B16:List Nat:=[0,0,0,0,0,0,48,112,0,0,768,1792,4083,8179,16383,32767]
theorem garboardref01_To.tab16:rtab .any (opsOf Tryz.f72 16) = garboardref01_To.T16:=by kernel_rfl
theorem garboardref01_To.bits16:waitsOk garboardref01_To.T16.2 garboardref01_To.B16 = true:=by kernel_rfl
theorem garboardref01_To.calls (k:Nat) (A0:Option Addr) (c0:Nat) (l0:List Int) (r:ByteArray) (w:World) (hr0:Kd.C (Kd.int .u32) w A0 l0.length l0) (hc0:l0.length≤c0) (h:garboardref01_To.f k l0 = some r) :
  Calls Tryz.prog 72 #[.slice A0 l0.length c0] w fun e w'=>e = .returned (.string r)∧Below w.heap.size w w':=by
 have HR0:=Aside0.mk hr0
 have HC0:=Aside0.mk hc0
 clear hr0 hc0
 have HB:=Aside0.mk (Below.refl w.heap.size w)
 have H:(if (l0.length:Int) = 0 then (some (⟨#[48]⟩:ByteArray)) else (garboardref01_To.l0 k l0 ([]:List Int) 0)) = some r:=h
 clear h
 by_cases c2:(l0.length:Int) = 0
 ·rw [if_pos c2] at H
  have c2b0:((l0.length:Int) == 0) = true:=beq_iff_eq.mpr c2
  have c2b1:((l0.length:Int) != 0) = false:=bne_eq_false_iff_eq.mpr c2
  clear c2
  obtain rfl:=Option.some.inj H
  go_enter Tryz.func72,Tryz.ntmps72
  go_wp2
  go_ret
  exact ⟨rf_,bx_⟩
 ·rw [if_neg c2] at H
  have c2b0:((l0.length:Int) == 0) = false:=beq_eq_false_iff_ne.mpr c2
  have c2b1:((l0.length:Int) != 0) = true:=bne_iff_ne.mpr c2
  have c2b2:¬ (l0 = []):=fun h_=>c2 (by rw [h_];rfl)
  have H':=Aside0.mk H
  clear H
  go_enter Tryz.func72,Tryz.ntmps72
  go_wp2
  go_loopg [3,4] k (fun kq v3 v4 w'=>∃ (x3_1:List Int) (x4_1:Int),v4 = .int .i64 x4_1∧Aside0 (garboardref01_To.l0 kq l0 x3_1 x4_1 = some r)∧Aside0 (kq≤k)∧Aside0 (Kd.R (Kd.int .u8) 5 w' w.heap.size (fun _=>True) v3 x3_1)∧Aside0 (Below w.heap.size w w'))
  case atStart=>exact ⟨(([]:List Int)),(0),(by first|rfl|(simp;done)|(simp [*];done)),H',⟨Nat.le_refl _⟩,⟨by first|exact Kd.R_nil _ _ _ _ _|exact Kd.N_nil _ _ _ _ _|exact Kd.V_nil _ _ _ _ _|exact Kd.Q_nil _ _ _ _ _|exact Kd.S_nil _ _ _ _ _⟩,⟨bx_⟩⟩
  case round =>
   clear H'
   try clear c2
   try clear c2b0
   try clear c2b1
   try clear c2b2
   try clear p2
   obtain ⟨x3_1,x4_1,rfl,HA,HK1,HO_3,HB⟩:=hrel
   cases gk with
   | zero=>exact absurd HA.out (by simp [garboardref01_To.l0])
   | succ k1 =>
    have H:=HA.out
    clear HA
    simp only [garboardref01_To.l0] at H
    by_cases c3:x4_1 < (l0.length:Int)
    ·rw [if_pos c3] at H
     have c3b0:decide (x4_1 < (l0.length:Int)) = true:=decide_eq_true c3
     clear c3
     by_cases c4:0≤x4_1
     ·rw [if_pos c4] at H
      have c4b0:decide (0≤x4_1) = true:=decide_eq_true c4
      clear c4
      have H':=Aside0.mk H
      clear H
      have p442:0≤(x4_1:Int):=da_
      have q442:x4_1 < (l0.length:Int):=da_
      obtain ⟨ad442,e442,hx442_0⟩:=Kd.at_int HR0.out x4_1 p442 q442
      cases e442
      replace hx442_0:=(HB.out.cell (World.block_lt_of_cell? w _ hx442_0)).trans hx442_0
      replace p442:=eq_true p442
      replace q442:=eq_true q442
      go_wp2
      go_loopg [3,5,6] k1 (fun kq v3 v5 v6 w'=>∃ (x3_2:List Int) (x5_2:Int) (x6_2:Int),v5 = .int .u32 x5_2∧v6 = .int .i64 x6_2∧Aside0 (garboardref01_To.l1 kq l0 x3_2 x4_1 x5_2 x6_2 = some r)∧Aside0 (kq≤k1)∧Aside0 (Kd.R (Kd.int .u8) 5 w' w.heap.size (fun _=>True) v3 x3_2)∧Aside0 (Below w.heap.size w w'))
      case atStart=>exact ⟨(x3_1),(rd l0 x4_1),(0),(by first|rfl|(simp;done)|(simp [*];done)),(by first|rfl|(simp;done)|(simp [*];done)),H',⟨Nat.le_refl _⟩,⟨by (with_reducible repeat (first|apply Kd.R_alloc|apply Kd.R_drewN|apply Kd.R_drew));exact HO_3.out⟩,⟨bx_⟩⟩
      case round =>
       clear H'
       try clear c2
       try clear c2b0
       try clear c2b1
       try clear c2b2
       try clear p2
       try clear c3
       try clear c3b0
       try clear c4
       try clear c4b0
       try clear p4
       try clear q4
       try clear hx4
       try clear hx442_0
       try clear p2
       try clear p442
       try clear q442
       obtain ⟨x3_2,x5_2,x6_2,rfl,rfl,HA,HK2,HO_3,HB⟩:=hrel
       cases gk with
       | zero=>exact absurd HA.out (by simp [garboardref01_To.l1])
       | succ k2 =>
        have H:=HA.out
        clear HA
        simp only [garboardref01_To.l1] at H
        by_cases c5:x6_2 < 9
        ·rw [if_pos c5] at H
         have c5b0:decide (x6_2 < 9) = true:=decide_eq_true c5
         clear c5
         by_cases c6:(wrap64 (x4_1 + 1)) < (l0.length:Int)
         ·rw [if_pos c6] at H
          have c6b0:decide ((wrap64 (x4_1 + 1)) < (l0.length:Int)) = true:=decide_eq_true c6
          clear c6
          by_cases c7:x3_2.length < 140737488355328
          ·rw [if_pos c7] at H
           have LMc7:=Aside0.mk c7
           clear c7
           obtain ⟨y443,hy443⟩:∃ y_:List Int,y_ = (x3_2 ++ [((48 + (Int.tmod x5_2 10)) % 4294967296) % 256]):=⟨_,rfl⟩
           replace H:(garboardref01_To.l1 k2 l0 y443 x4_1 ((Int.tdiv x5_2 10) % 4294967296) (wrap64 (x6_2 + 1))) = some r:=by first|(rw [hy443];with_reducible exact H)|(have H2_:=(Option.bind_some _ _).symm.trans H;rw [hy443];with_reducible exact H2_)|(have H2_:=(Option.bind_some _ _).symm.trans H;with_reducible exact H2_)|with_reducible exact H|(rw [hy443];exact H)|exact H
           have Ny443:=(Aside0.mk (hy443.trans (by rw [Int.emod_emod_of_dvd _ (by decide:(256:Int) ∣ 4294967296)])):Aside0 (y443 = x3_2 ++ [(48 + Int.tmod x5_2 10) % 256]))
           clear hy443
           have H':=Aside0.mk H
           clear H
           go_wp2_with (first|((with_reducible refine gate_builtin (b:=.append) (xs:=#[.tmp 37,.tmp 42]) rfl ?_);(try (refine gate_guard (by rfl) ?_;dsimp only));at_builtin;refine Kd.R_append (Kd.int .u8) (w0:=w) w.heap.size rfl (.tmp 37) (.tmp 42) 108 5 (.int .u8 0) 1 rfl Tryz.underlying108 info5 rfl de_ (by omega) u3 x3_2 ((48 + Int.tmod x5_2 10) % 256) [.int .u8 ((48 + Int.tmod x5_2 10) % 256)] (fun _=>True) (fun _=>False) rfl rfl ?aP (fun _ hk=>hk.elim) ?aF ?aO ?aB ?aS ?aL ?_;(case aP=>exact rfl);(case aB=>exact bx_);(case aF=>exact (fun _ _=>trivial));(case aO=>exact (by (with_reducible repeat (first|apply Kd.R_alloc|apply Kd.R_drewN|apply Kd.R_drew));exact HO_3.out));(case aS=>exact (below_size bx_));(case aL=>have:=LMc7.out;omega);intro v444 w8 ho hb hg hat;rw [← Ny443.out] at ho;have HO445:=Aside0.mk ho;replace HB:=Aside0.mk hb;clear HO_3;clear ho hb hg hat))
           go_roundg k2
           case measure=>have:=HK1.out;have:=HK2.out;omega
           case rel=>exact ⟨(y443),((Int.tdiv x5_2 10) % 4294967296),(wrap64 (x6_2 + 1)),(by first|rfl|(simp;done)|(simp [*];done)),(by first|rfl|(simp;done)|(simp [*];done)),H',⟨by have:=HK1.out;have:=HK2.out;omega⟩,⟨by (with_reducible repeat (first|apply Kd.R_alloc|apply Kd.R_drewN|apply Kd.R_drew));exact HO445.out⟩,⟨bx_⟩⟩
          ·rw [if_neg c7] at H
           exact absurd H sm_
         ·rw [if_neg c6] at H
          have c6b0:decide ((wrap64 (x4_1 + 1)) < (l0.length:Int)) = false:=decide_eq_false c6
          clear c6
          by_cases c9:x5_2 > 0
          ·rw [if_pos c9] at H
           have c9b0:decide (0 < x5_2) = true:=decide_eq_true c9
           clear c9
           by_cases c10:x3_2.length < 140737488355328
           ·rw [if_pos c10] at H
            have LMc10:=Aside0.mk c10
            clear c10
            obtain ⟨y446,hy446⟩:∃ y_:List Int,y_ = (x3_2 ++ [((48 + (Int.tmod x5_2 10)) % 4294967296) % 256]):=⟨_,rfl⟩
            replace H:(garboardref01_To.l1 k2 l0 y446 x4_1 ((Int.tdiv x5_2 10) % 4294967296) (wrap64 (x6_2 + 1))) = some r:=by first|(rw [hy446];with_reducible exact H)|(have H2_:=(Option.bind_some _ _).symm.trans H;rw [hy446];with_reducible exact H2_)|(have H2_:=(Option.bind_some _ _).symm.trans H;with_reducible exact H2_)|with_reducible exact H|(rw [hy446];exact H)|exact H
            have Ny446:=(Aside0.mk (hy446.trans (by rw [Int.emod_emod_of_dvd _ (by decide:(256:Int) ∣ 4294967296)])):Aside0 (y446 = x3_2 ++ [(48 + Int.tmod x5_2 10) % 256]))
            clear hy446
            have H':=Aside0.mk H
            clear H
            go_wp2_with (first|((with_reducible refine gate_builtin (b:=.append) (xs:=#[.tmp 37,.tmp 42]) rfl ?_);(try (refine gate_guard (by rfl) ?_;dsimp only));at_builtin;refine Kd.R_append (Kd.int .u8) (w0:=w) w.heap.size rfl (.tmp 37) (.tmp 42) 108 5 (.int .u8 0) 1 rfl Tryz.underlying108 info5 rfl de_ (by omega) u3 x3_2 ((48 + Int.tmod x5_2 10) % 256) [.int .u8 ((48 + Int.tmod x5_2 10) % 256)] (fun _=>True) (fun _=>False) rfl rfl ?aP (fun _ hk=>hk.elim) ?aF ?aO ?aB ?aS ?aL ?_;(case aP=>exact rfl);(case aB=>exact bx_);(case aF=>exact (fun _ _=>trivial));(case aO=>exact (by (with_reducible repeat (first|apply Kd.R_alloc|apply Kd.R_drewN|apply Kd.R_drew));exact HO_3.out));(case aS=>exact (below_size bx_));(case aL=>have:=LMc10.out;omega);intro v447 w11 ho hb hg hat;rw [← Ny446.out] at ho;have HO448:=Aside0.mk ho;replace HB:=Aside0.mk hb;clear HO_3;clear ho hb hg hat))
            go_roundg k2
            case measure=>have:=HK1.out;have:=HK2.out;omega
            case rel=>exact ⟨(y446),((Int.tdiv x5_2 10) % 4294967296),(wrap64 (x6_2 + 1)),(by first|rfl|(simp;done)|(simp [*];done)),(by first|rfl|(simp;done)|(simp [*];done)),H',⟨by have:=HK1.out;have:=HK2.out;omega⟩,⟨by (with_reducible repeat (first|apply Kd.R_alloc|apply Kd.R_drewN|apply Kd.R_drew));exact HO448.out⟩,⟨bx_⟩⟩
           ·rw [if_neg c10] at H
            exact absurd H sm_
          ·rw [if_neg c9] at H
           have c9b0:decide (0 < x5_2) = false:=decide_eq_false c9
           clear c9
           have H':=Aside0.mk H
           clear H
           go_wp2
           go_roundg k2
           case measure=>have:=HK1.out;have:=HK2.out;omega
           case rel=>exact ⟨(x3_2),(wrap64 (x4_1 + 1)),(by first|rfl|(simp;done)|(simp [*];done)),H',⟨by have:=HK1.out;have:=HK2.out;omega⟩,⟨by (with_reducible repeat (first|apply Kd.R_alloc|apply Kd.R_drewN|apply Kd.R_drew));exact HO_3.out⟩,⟨bx_⟩⟩
        ·rw [if_neg c5] at H
         have c5b0:decide (x6_2 < 9) = false:=decide_eq_false c5
         clear c5
         have H':=Aside0.mk H
         clear H
         go_wp2
         go_roundg k2
         case measure=>have:=HK1.out;have:=HK2.out;omega
         case rel=>exact ⟨(x3_2),(wrap64 (x4_1 + 1)),(by first|rfl|(simp;done)|(simp [*];done)),H',⟨by have:=HK1.out;have:=HK2.out;omega⟩,⟨by (with_reducible repeat (first|apply Kd.R_alloc|apply Kd.R_drewN|apply Kd.R_drew));exact HO_3.out⟩,⟨bx_⟩⟩
     ·rw [if_neg c4] at H
      exact absurd H sm_
    ·rw [if_neg c3] at H
     have c3b0:decide (x4_1 < (l0.length:Int)) = false:=decide_eq_false c3
     clear c3
     have H':=Aside0.mk H
     clear H
     obtain ⟨Ao12,co12,eo12⟩:=Kd.R_slice HO_3.out
     subst eo12
     go_wp2
     go_loopg [7,8] k1 (fun kq v7 v8 w'=>∃ (x3_2:List Int) (x7_2:Int) (x8_2:Int),v7 = .int .i64 x7_2∧v8 = .int .i64 x8_2∧Aside0 (garboardref01_To.l2 kq x3_2 x7_2 x8_2 = some r)∧Aside0 (kq≤k1)∧Aside0 (Kd.R (Kd.int .u8) 5 w' w.heap.size (fun _=>True) (.slice Ao12 x3_1.length co12) x3_2)∧Aside0 (Below w.heap.size w w'))
     case atStart=>exact ⟨(x3_1),(0),(wrap64 ((x3_1.length:Int) - 1)),(by first|rfl|(simp;done)|(simp [*];done)),(by first|rfl|(simp;done)|(simp [*];done)),H',⟨Nat.le_refl _⟩,⟨by (with_reducible repeat (first|apply Kd.R_alloc|apply Kd.R_drewN|apply Kd.R_drew));exact HO_3.out⟩,⟨bx_⟩⟩
     case round =>
      clear H'
      try clear c1
      try clear c2
      try clear c2b0
      try clear c2b1
      try clear c2b2
      try clear p2
      try clear c3
      try clear c3b0
      try clear c4
      try clear c4b0
      try clear p4
      try clear q4
      try clear hx4
      try clear c5
      try clear c5b0
      try clear c6
      try clear c6b0
      try clear p6
      try clear c7
      try clear c9
      try clear c9b0
      try clear c10
      try clear hx442_0
      try clear p2
      try clear p4
      try clear p442
      try clear q4
      try clear q442
      obtain ⟨x3_2,x7_2,x8_2,rfl,rfl,HA,HK2,HO_3,HB⟩:=hrel
      have hl3_2:=(Kd.R_reads' HO_3.out).1
      rw [hl3_2] at HO_3
      (try simp only [hl3_2])
      cases gk with
      | zero=>exact absurd HA.out (by simp [garboardref01_To.l2])
      | succ k2 =>
       have H:=HA.out
       clear HA
       simp only [garboardref01_To.l2] at H
       by_cases c13:x7_2 < x8_2
       ·rw [if_pos c13] at H
        have c13b0:decide (x7_2 < x8_2) = true:=decide_eq_true c13
        clear c13
        by_cases c14:0≤x8_2
        ·rw [if_pos c14] at H
         have c14b0:decide (0≤x8_2) = true:=decide_eq_true c14
         clear c14
         by_cases c15:x8_2 < (x3_2.length:Int)
         ·rw [if_pos c15] at H
          have c15b0:decide (x8_2 < (x3_2.length:Int)) = true:=decide_eq_true c15
          clear c15
          by_cases c16:0≤x7_2
          ·rw [if_pos c16] at H
           have c16b0:decide (0≤x7_2) = true:=decide_eq_true c16
           clear c16
           by_cases c17:x7_2 < (x3_2.length:Int)
           ·rw [if_pos c17] at H
            have c17b0:decide (x7_2 < (x3_2.length:Int)) = true:=decide_eq_true c17
            clear c17
            obtain ⟨y451,hy451⟩:∃ y_:List Int,y_ = (x3_2.set (x7_2:Int).toNat (rd x3_2 x8_2)):=⟨_,rfl⟩
            replace H:(garboardref01_To.l2 k2 (y451.set (x8_2:Int).toNat (rd x3_2 x7_2)) (wrap64 (x7_2 + 1)) (wrap64 (x8_2 - 1))) = some r:=by first|(rw [hy451];with_reducible exact H)|(have H2_:=(Option.bind_some _ _).symm.trans H;rw [hy451];with_reducible exact H2_)|(have H2_:=(Option.bind_some _ _).symm.trans H;with_reducible exact H2_)|with_reducible exact H|(rw [hy451];exact H)|exact H
            have Ny451:=Aside0.mk hy451
            clear hy451
            obtain ⟨y452,hy452⟩:∃ y_:List Int,y_ = (y451.set (x8_2:Int).toNat (rd x3_2 x7_2)):=⟨_,rfl⟩
            replace H:(garboardref01_To.l2 k2 y452 (wrap64 (x7_2 + 1)) (wrap64 (x8_2 - 1))) = some r:=by first|(rw [hy452];with_reducible exact H)|(have H2_:=(Option.bind_some _ _).symm.trans H;rw [hy452];with_reducible exact H2_)|(have H2_:=(Option.bind_some _ _).symm.trans H;with_reducible exact H2_)|with_reducible exact H|(rw [hy452];exact H)|exact H
            have Ny452:=Aside0.mk hy452
            clear hy452
            have H':=Aside0.mk H
            clear H
            try go_wp2
            replace HO_3:=Aside0.mk (Kd.R_drew HO_3.out)
            replace HB:=db_ HB
            have p449:0≤(x8_2:Int):=da_
            have q449:x8_2 < (x3_2.length:Int):=da_
            obtain ⟨ad449,e449,hx449_0⟩:=Kd.at_int (Kd.R_reads' HO_3.out).2.2 x8_2 p449 q449
            cases e449
            replace p449:=eq_true p449
            replace q449:=eq_true q449
            have p450:0≤(x7_2:Int):=da_
            have q450:x7_2 < (x3_2.length:Int):=da_
            obtain ⟨ad450,e450,hx450_0⟩:=Kd.at_int (Kd.R_reads' HO_3.out).2.2 x7_2 p450 q450
            obtain rfl:ad449 = ad450:=(by injection e450)
            replace p450:=eq_true p450
            replace q450:=eq_true q450
            have p18:0≤(x7_2:Int):=da_
            have q18:(x7_2:Int) < ((x3_2.length:Int):Int):=da_
            obtain ⟨go18,co18,eo18,gb18,gl18,cl18,HG18⟩:=Kd.R_form HO_3.out (by omega)
            (first|cases eo18|(injection eo18 with ea_ en_ ec_;(first|subst ea_|(injection ea_ with ea_;subst ea_));subst ec_;clear en_))
            have GB18:=Aside0.mk gb18
            have GG18:=Aside0.mk HG18
            clear gb18 gl18 HG18
            (first|simp only [add_plain] at hx449_0|skip)
            (first|simp only [add_plain] at hx450_0|skip)
            obtain ⟨hx18_0,hf18_0⟩:=Kd.R_celln 0 HO_3.out (x7_2:Int) p18 q18
            replace p18:=eq_true p18
            replace q18:=eq_true q18
            have HP21:=Kd.R_putn HO_3.out (x7_2:Int) (rd x3_2 x8_2)
            rw [← Ny451.out] at HP21
            have HQ21:=Aside0.mk HP21
            clear HP21
            have p19:0≤(x8_2:Int):=da_
            have q19:(x8_2:Int) < ((x3_2.length:Int):Int):=da_
            obtain ⟨hx19_0,hf19_0⟩:=Kd.R_celln 0 HQ21.out (x8_2:Int) p19 q19
            replace p19:=eq_true p19
            replace q19:=eq_true q19
            have HP22:=Kd.R_putn HQ21.out (x8_2:Int) (rd x3_2 x7_2)
            rw [← Ny452.out] at HP22
            have HQ22:=Aside0.mk HP22
            clear HP22
            refine start_ (n:=16) (S:=fun w'=>w'.cell? ⟨go18,(x8_2).toNat,none⟩ = some (.int .u8 (rd x3_2 x8_2))∧w'.cell? ⟨go18,(x7_2).toNat,none⟩ = some (.int .u8 (rd x3_2 x7_2))) (ds:=[13,15]) #[false,false,false,false,false,false,false,false,false,false,false,false,false,false,false,false] kr_ rfl rfl ⟨hx449_0,hx450_0⟩ (fun hHeld=>?_);refine with_tabW garboardref01_To.tab16 garboardref01_To.bits16 (fun HT_ HW_=>?_)
            generalize wr.drew = w20 at HO_3 HB GG18 HQ21 HQ22 hf18_0 hf19_0 hx18_0 hx19_0 hx449_0 hx450_0 hHeld ⊢
            refine pu_ 0 (some 56) #[true,false,false,false,false,false,false,false,false,false,false,false,false,false,false,false] ?_
            refine pu_ 1 (some 57) #[true,true,false,false,false,false,false,false,false,false,false,false,false,false,false,false] ?_
            refine pu_ 2 (some 58) #[true,true,true,false,false,false,false,false,false,false,false,false,false,false,false,false] ?_
            refine pu_ 3 (some 59) #[true,true,true,true,false,false,false,false,false,false,false,false,false,false,false,false] ?_
            refine pu_ 4 (some 60) #[true,true,true,true,true,false,false,false,false,false,false,false,false,false,false,false] ?_
            refine pu_ 5 (some 61) #[true,true,true,true,true,true,false,false,false,false,false,false,false,false,false,false] ?_
            refine pu_ 6 (some 62) #[true,true,true,true,true,true,true,false,false,false,false,false,false,false,false,false] ?_
            refine pu_ 8 (some 64) #[true,true,true,true,true,true,true,false,true,false,false,false,false,false,false,false] ?_
            refine pu_ 9 (some 65) #[true,true,true,true,true,true,true,false,true,true,false,false,false,false,false,false] ?_
            refine pu_ 10 (some 66) #[true,true,true,true,true,true,true,false,true,true,true,false,false,false,false,false] ?_
            refine tk2_ 7 (some 63) #[true,true,true,true,true,true,true,true,true,true,true,false,false,false,false,false] hHeld ?_
            refine tk2_ 11 (some 67) #[true,true,true,true,true,true,true,true,true,true,true,true,false,false,false,false] hHeld ?_
            refine pu_ 12 (some 68) #[true,true,true,true,true,true,true,true,true,true,true,true,true,false,false,false] ?_
            refine last_ (i:=13) (N:=none) #[true,true,true,true,true,true,true,true,true,true,true,true,true,true,false,false] rfl rfl (one_of HT_.out kr_) de_ (fun K hK=>?_)
            refine skip_ (w1:=?_) (by rfl) rfl ?_ ?_
            rotate_left
            ·go_simp
             rfl
            refine hK.out _ _ ?_
            clear hK K
            refine pu_ 14 (some 69) #[true,true,true,true,true,true,true,true,true,true,true,true,true,true,true,false] ?_
            refine last_ (i:=15) (N:=none) #[true,true,true,true,true,true,true,true,true,true,true,true,true,true,true,true] rfl rfl (one_of HT_.out kr_) de_ (fun K hK=>?_)
            refine skip_ (w1:=?_) (by rfl) rfl ?_ ?_
            rotate_left
            ·go_simp
             rfl
            refine hK.out _ _ ?_
            clear hK K
            refine done_ (done_of HT_.out kr_) ?_
            try go_wp2
            (try simp only [← hl3_2])
            go_roundg k2
            case measure=>have:=HK1.out;have:=HK2.out;omega
            case rel=>exact ⟨(y452),(wrap64 (x7_2 + 1)),(wrap64 (x8_2 - 1)),(by first|rfl|(simp;done)|(simp [*];done)),(by first|rfl|(simp;done)|(simp [*];done)),H',⟨by have:=HK1.out;have:=HK2.out;omega⟩,⟨by (try simp only [hl3_2]);(with_reducible repeat (first|apply Kd.R_alloc|apply Kd.R_drewN|apply Kd.R_drew));exact HQ22.out⟩,⟨by repeat (first|(with_reducible first|exact HB.out|apply below_alloc|apply pw_below_drewN|apply below_drew1|refine below_set ?_ GB18.out|refine below_set ?_ GB18.out)|exact HB.out)⟩⟩
           ·rw [if_neg c17] at H
            exact absurd H sm_
          ·rw [if_neg c16] at H
           exact absurd H sm_
         ·rw [if_neg c15] at H
          exact absurd H sm_
        ·rw [if_neg c14] at H
         exact absurd H sm_
       ·rw [if_neg c13] at H
        have c13b0:decide (x7_2 < x8_2) = false:=decide_eq_false c13
        clear c13
        obtain rfl:=Option.some.inj H
        have hcv23:=own_string (P:=Tryz.prog) Tryz.underlying108 Tryz.underlying5 Tryz.underlying9 (Kd.own_of_R HO_3.out)
        go_wp2
        go_ret
        exact ⟨rf_,bx_⟩
end Go.Proofs.YtaknchlegjcdhaaGreatDoor.Pr
set_option linter.unusedVariables false
set_option linter.unusedSimpArgs false
namespace Go.Proofs.YtaknchlegjcdhaaGreatDoor.Pr
open Go.RowKit Go.Lib Go.Proofs.YtaknchlegjcdhaaGreatDoorW.PrintWords Go.Proofs.YtaknchlegjcdhaaGreatDoorW.PrintLast Go.Proofs.YtaknchlegjcdhaaGreatDoorW.PrintMore Go.Proofs.YtaknchlegjcdhaaGreatDoor.NatTh
def num (n:Nat):ByteArray:=⟨(decDigits n).toArray⟩
theorem text_eq (n:Nat) (h:Ok (numOf n)):natural_num_text.f (numOf n) = some (num n):=by
 unfold Ok at h
 unfold natural_num_text.f
 rw [if_pos ⟨h,fun x hx=>by have:=(num_numOf n).1 x hx;rw [BB] at this;exact this⟩,text_numOf]
 rfl
def revD (l:List UInt8):List Int:=l.reverse.map fun c=>(c.toNat:Int)
theorem revD_snoc (l:List UInt8) (c:UInt8):revD (l ++ [c]) = (c.toNat:Int) :: revD l:=by simp [revD]
theorem revD_app (a b:List UInt8):revD (a ++ b) = revD b ++ revD a:=by simp [revD]
theorem revD_len (l:List UInt8):(revD l).length = l.length:=by simp [revD]
theorem dg_int (w:Nat):((48 + Int.tmod (w:Int) 10) % 4294967296) % 256 = ((NatTh.dg (w % 10)).toNat:Int):=by
 rw [dg_toNat _ (Nat.mod_lt _ (by omega)),Int.tmod_eq_emod_of_nonneg (by omega)]
 omega
theorem dv_int (w:Nat) (h:w < 4294967296):(Int.tdiv (w:Int) 10) % 4294967296 = ((w / 10:Nat):Int):=by
 rw [Int.tdiv_eq_ediv_of_nonneg (by omega)]
 omega
theorem to_pad (x:List Int) (i:Nat) (hi:i + 1 < x.length) (hx:x.length < 1099511627776):∀ (m w:Nat),m≤9→w < 4294967296→∀ (out:List Int),out.length + m < 140737488355328→∀ k,
  garboardref01_To.l1 (k + 1 + m) x out i w ((9 - m:Nat):Int) = garboardref01_To.l0 k x (out ++ revD (pad m w)) ((i + 1:Nat):Int):=by
 intro m
 induction m with
 | zero =>
  intro w _ _ out _ k
  show garboardref01_To.l1 (k + 1) x out i w 9 = _
  unfold garboardref01_To.l1
  rw [if_neg (by omega),wi1 i (by omega)]
  simp [pad,revD]
 | succ m ih =>
  intro w hm hw out ho k
  have hi1:=ih (w / 10) (by omega) (by omega) (out ++ [((NatTh.dg (w % 10)).toNat:Int)]) (by rw [List.length_append];simp;omega) k
  rw [List.append_assoc] at hi1
  rw [pad,revD_snoc,show k + 1 + (m + 1) = k + 1 + m + 1 by omega]
  rw [List.singleton_append] at hi1
  rw [← hi1]
  conv=>lhs;unfold garboardref01_To.l1
  rw [if_pos (by omega),wi1 i (by omega),if_pos (by omega),if_pos (by omega),dg_int,dv_int w hw,wi1 (9 - (m + 1)) (by omega),show 9 - (m + 1) + 1 = 9 - m by omega]
def dz (w:Nat):List UInt8:=if w = 0 then [] else decDigits w
theorem dz_step (w:Nat) (h:0 < w):dz w = dz (w / 10) ++ [NatTh.dg (w % 10)]:=by
 unfold dz
 rw [if_neg (by omega)]
 by_cases h1:w < 10
 ·rw [if_pos (by omega),dec_small w h1,Nat.mod_eq_of_lt h1]
  rfl
 ·rw [if_neg (by omega),dec_big w h1]
theorem to_last (x:List Int) (i:Nat) (hi:i + 1 = x.length) (hx:x.length < 1099511627776):∀ (m w:Nat),m≤9→w < 10 ^ m→∀ (out:List Int),out.length + m < 140737488355328→∃ c,∀ k,
  garboardref01_To.l1 (k + c) x out i w ((9 - m:Nat):Int) = garboardref01_To.l0 k x (out ++ revD (dz w)) ((i + 1:Nat):Int):=by
 intro m
 induction m with
 | zero =>
  intro w _ hw out _
  obtain rfl:w = 0:=by simpa using hw
  refine ⟨1,fun k=>?_⟩
  show garboardref01_To.l1 (k + 1) x out i 0 9 = _
  unfold garboardref01_To.l1
  rw [if_neg (by omega),wi1 i (by omega)]
  simp [dz,revD]
 | succ m ih =>
  intro w hm hw out ho
  by_cases h0:w = 0
  ·subst h0
   refine ⟨1,fun k=>?_⟩
   unfold garboardref01_To.l1
   rw [if_pos (by omega),wi1 i (by omega),if_neg (by omega),if_neg (by omega)]
   simp [dz,revD]
  ·have hw9:w < 10 ^ 9:=Nat.lt_of_lt_of_le hw (Nat.pow_le_pow_right (by omega) hm)
   obtain ⟨c,hc⟩:=ih (w / 10) (by omega) (by rw [Nat.pow_succ] at hw;omega) (out ++ [((NatTh.dg (w % 10)).toNat:Int)]) (by rw [List.length_append];simp;omega)
   refine ⟨c + 1,fun k=>?_⟩
   have h1:=hc k
   rw [List.append_assoc,List.singleton_append] at h1
   rw [dz_step w (by omega),revD_snoc,← h1,← Nat.add_assoc]
   conv=>lhs;unfold garboardref01_To.l1
   rw [if_pos (by omega),wi1 i (by omega),if_neg (by omega),if_pos (by omega),if_pos (by omega),dg_int,dv_int w (by omega),wi1 (9 - (m + 1)) (by omega),show 9 - (m + 1) + 1 = 9 - m by omega]
theorem to_words (x:List Int) (hw:Num x) (hx:x.length < 1099511627776):∀ (m i:Nat),i + m = x.length→0 < m→∀ (out:List Int),out.length + 9 * m < 140737488355328→∃ c,∀ k,
  garboardref01_To.l0 (k + c) x out i = garboardref01_To.l2 k (out ++ revD (txt (x.drop i))) 0 (wrap64 (((out ++ revD (txt (x.drop i))).length:Int) - 1)):=by
 intro m
 induction m with
 | zero=>intro i _ h;omega
 | succ m ih =>
  intro i hi _ out ho
  have hil:i < x.length:=by omega
  have hxi:=hw.1.get i hil
  rw [BB] at hxi
  obtain ⟨w,hwe⟩:∃ w:Nat,x[i] = (w:Int):=⟨x[i].toNat,by omega⟩
  rw [hwe] at hxi
  have hrd:rd x (i:Int) = (w:Int):=by
   rw [rd_eq,List.getD_eq_getElem?_getD,List.getElem?_eq_getElem hil,← hwe]
   rfl
  have hdrop:x.drop i = (w:Int) :: x.drop (i + 1):=by rw [List.drop_eq_getElem_cons hil,hwe]
  have open_:∀ k,garboardref01_To.l0 (k + 1) x out i = garboardref01_To.l1 k x out i w 0:=by
   intro k
   conv=>lhs;unfold garboardref01_To.l0
   rw [if_pos (by omega),if_pos (by omega),hrd]
  by_cases hm:m = 0
  ·subst hm
   have hnil:x.drop (i + 1) = []:=List.drop_of_length_le (by omega)
   have hw0:w≠0:=by
    intro h0
    have:=hw.2 x[i] (by
     rw [List.getLast?_eq_getElem?,show x.length - 1 = i by omega,List.getElem?_eq_getElem hil])
    rw [hwe,h0] at this
    exact this rfl
   obtain ⟨c,hc⟩:=to_last x i (by omega) hx 9 w (by omega) (by omega) out (by omega)
   refine ⟨1 + c + 1,fun k=>?_⟩
   have h1:=hc (k + 1)
   have hdz:dz w = txt (x.drop i):=by
    rw [hdrop,hnil,txt,Int.toNat_natCast]
    unfold dz
    rw [if_neg hw0]
   rw [hdz] at h1
   rw [show k + (1 + c + 1) = k + 1 + c + 1 by omega,open_]
   refine h1.trans ?_
   conv=>lhs;unfold garboardref01_To.l0
   rw [if_neg (by omega)]
  ·obtain ⟨y,l,hy⟩:∃ y l,x.drop (i + 1) = y :: l:=List.exists_cons_of_ne_nil (by
    intro e
    have:=congrArg List.length e
    rw [List.length_drop] at this
    simp at this
    omega)
   obtain ⟨c,hc⟩:=ih (i + 1) (by omega) (by omega) (out ++ revD (pad 9 w)) (by rw [List.length_append,revD_len,pad_length];omega)
   refine ⟨c + 10 + 1,fun k=>?_⟩
   have h1:=hc k
   have h2:=to_pad x i (by omega) hx 9 w (by omega) (by omega) out (by omega) (k + c)
   have ht:txt (x.drop i) = txt (x.drop (i + 1)) ++ pad 9 w:=by rw [hdrop,hy,txt,Int.toNat_natCast]
   rw [List.append_assoc,← revD_app,← ht] at h1
   rw [show k + (c + 10 + 1) = k + c + 1 + 9 + 1 by omega,open_]
   exact h2.trans h1
theorem getD_set (l:List Int) (n i:Nat) (v:Int) (h:n < l.length):(l.set n v).getD i 0 = if i = n then v else l.getD i 0:=by
 rw [List.getD_eq_getElem?_getD,List.getElem?_set]
 by_cases e:n = i
 ·subst e
  rw [if_pos rfl,if_pos h,if_pos rfl]
  rfl
 ·rw [if_neg e,if_neg (fun h=>e h.symm),List.getD_eq_getElem?_getD]
theorem turn_loop (L:List Int) (hL:L.length < 1152921504606846976):∀ (m t:Nat) (x:List Int),L.length≤2 * t + m→x.length = L.length→2 * t≤L.length→(∀ i,i < L.length→x.getD i 0 = if i < t ∨ L.length - 1 - t < i then L.getD (L.length - 1 - i) 0 else L.getD i 0) →
  ∀ k,garboardref01_To.l2 (k + 1 + m) x t ((L.length:Int) - 1 - t) = some (strOfNums L.reverse):=by
 intro m
 have fin:∀ (t:Nat) (x:List Int),x.length = L.length→2 * t≤L.length→(∀ i,i < L.length→x.getD i 0 = if i < t ∨ L.length - 1 - t < i then L.getD (L.length - 1 - i) 0 else L.getD i 0)→¬ ((t:Int) < (L.length:Int) - 1 - t)→x = L.reverse:=by
  intro t x hxl ht hx hlt
  apply List.ext_getElem
  ·rw [List.length_reverse,hxl]
  ·intro i h1 h2
   have h3:=hx i (by omega)
   rw [List.getD_eq_getElem?_getD,List.getElem?_eq_getElem h1,List.getD_eq_getElem?_getD,List.getElem?_eq_getElem (show L.length - 1 - i < L.length by omega),List.getD_eq_getElem?_getD,List.getElem?_eq_getElem (show i < L.length by omega)] at h3
   simp only [Option.getD_some] at h3
   rw [List.getElem_reverse,h3]
   split
   ·rfl
   ·rename_i hc
    congr 1
    omega
 induction m with
 | zero =>
  intro t x hm hxl ht hx k
  show garboardref01_To.l2 (k + 1) x t _ = _
  unfold garboardref01_To.l2
  rw [if_neg (by omega),fin t x hxl ht hx (by omega)]
 | succ m ih =>
  intro t x hm hxl ht hx k
  rw [show k + 1 + (m + 1) = k + 1 + m + 1 by omega]
  by_cases hlt:(t:Int) < (L.length:Int) - 1 - t
  ·obtain ⟨b,hb⟩:∃ b:Nat,(L.length:Int) - 1 - t = b:=⟨L.length - 1 - t,by omega⟩
   have hbt:b = L.length - 1 - t:=by omega
   have h1:=ih (t + 1) ((x.set t (x.getD b 0)).set b (x.getD t 0)) (by omega) (by rw [List.length_set,List.length_set,hxl]) (by omega) (fun i hi=>by
    rw [getD_set _ _ _ _ (by rw [List.length_set];omega),getD_set _ _ _ _ (by omega)]
    by_cases e1:i = b
    ·rw [if_pos e1,hx t (by omega),if_neg (by omega),if_pos (by omega),e1]
     congr 1
     omega
    ·rw [if_neg e1]
     by_cases e2:i = t
     ·rw [if_pos e2,hx b (by omega),if_neg (by omega),if_pos (by omega),e2]
      congr 1
     ·rw [if_neg e2,hx i hi]
      by_cases e3:i < t ∨ L.length - 1 - t < i
      ·rw [if_pos e3,if_pos (by omega)]
      ·rw [if_neg e3,if_neg (by omega)]) k
   rw [show (L.length:Int) - 1 - ((t + 1:Nat):Int) = (b:Int) - 1 by omega] at h1
   unfold garboardref01_To.l2
   rw [hb,if_pos (by omega),if_pos (by omega),if_pos (by omega),if_pos (by omega),if_pos (by omega),Int.toNat_natCast,Int.toNat_natCast,rd_eq,rd_eq,wi1 t (by omega),w64 (x:=(b:Int) - 1) (by omega) (by omega)]
   exact h1
  ·unfold garboardref01_To.l2
   rw [if_neg hlt,fin t x hxl ht hx hlt]
theorem strOf_rev (l:List UInt8):strOfNums (revD l).reverse = ⟨l.toArray⟩:=by
 unfold strOfNums revD
 rw [← List.map_reverse,List.reverse_reverse,List.map_map]
 congr 2
 conv=>rhs;rw [← List.map_id l]
 apply List.map_congr_left
 intro c _
 simp
theorem txt_len (n:Nat):∀ l:List Int,l.length = n→(∀ x ∈ l,0≤x∧x < 1000000000)→(txt l).length≤9 * l.length:=by
 induction n with
 | zero =>
  intro l hl _
  have:l = []:=List.eq_nil_of_length_eq_zero hl
  subst this
  simp [txt]
 | succ n ih =>
  intro l hl hz
  match l,hl with
  | [w],_ =>
   have hw:=hz w (by simp)
   rw [txt]
   have:=dec_len w.toNat (by omega)
   simpa using this
  | w :: y :: l,hl =>
   have h1:=ih (y :: l) (by simpa using hl) (fun x hx=>hz x (by simp at hx ⊢;exact .inr hx))
   rw [txt,List.length_append,pad_length]
   simp only [List.length_cons] at h1 ⊢
   omega
theorem To_ev (n:Nat) (h:(numOf n).length < 1099511627776):Ev (fun k=>garboardref01_To.f k (numOf n)) (num n):=by
 by_cases h0:n = 0
 ·subst h0
  refine ⟨0,fun k _=>?_⟩
  simp only [garboardref01_To.f]
  rw [numOf_zero,if_pos (by simp)]
  unfold num
  rw [dec_small 0 (by omega)]
  rfl
 ·have hpos:=len_pos (show 0 < n by omega)
  obtain ⟨c,hc⟩:=to_words (numOf n) (num_numOf n) h (numOf n).length 0 (by omega) hpos [] (by simp;omega)
  rw [List.drop_zero,txt_numOf n (by omega),List.nil_append] at hc
  have hL:(revD (decDigits n)).length = (decDigits n).length:=revD_len _
  have hz:∀ x ∈ numOf n,0≤x∧x < 1000000000:=fun x hx=>by have:=(num_numOf n).1 x hx;rw [BB] at this;exact this
  have htl:=txt_len _ (numOf n) rfl hz
  rw [txt_numOf n (by omega)] at htl
  have hdp:0 < (decDigits n).length:=List.length_pos_iff.2 (dec_ne n)
  have ht:=turn_loop (revD (decDigits n)) (by omega) (revD (decDigits n)).length 0 (revD (decDigits n)) (by omega) rfl (by omega) (fun i hi=>by rw [if_neg (by omega)])
  refine ⟨1 + (revD (decDigits n)).length + c,fun k hk=>?_⟩
  obtain ⟨j,rfl⟩:∃ j,k = j + 1 + (revD (decDigits n)).length + c:=⟨k - 1 - (revD (decDigits n)).length - c,by omega⟩
  simp only [garboardref01_To.f]
  rw [if_neg (by omega)]
  refine (hc _).trans ?_
  rw [w64 (by omega) (by omega)]
  have h2:=ht j
  rw [strOf_rev,show (((revD (decDigits n)).length:Int) - 1 - ((0:Nat):Int)) = ((revD (decDigits n)).length:Int) - 1 by omega] at h2
  exact h2
end Go.Proofs.YtaknchlegjcdhaaGreatDoor.Pr
namespace Go.Proofs.YtaknchlegjcdhaaGreatDoor.Pr
open Go.RowKit Go.Proofs.YtaknchlegjcdhaaGreatDoorW.PrintWords Go.Proofs.YtaknchlegjcdhaaGreatDoorW.PrintLast Go.Proofs.YtaknchlegjcdhaaGreatDoorW.PrintMore Go.Proofs.YtaknchlegjcdhaaGreatDoor.NatTh
def nm (l:List Int):Nat:=(val l).toNat
def can (l:List Int):Prop:=l = numOf (nm l)∧l.length≤549755813888
instance (l:List Int):Decidable (can l):=by
 unfold can
 infer_instance
theorem nm_numOf (a:Nat):nm (numOf a) = a:=by
 unfold nm
 rw [val_numOf,Int.toNat_natCast]
theorem can_numOf {a:Nat} (h:(numOf a).length≤549755813888):can (numOf a):=⟨by rw [nm_numOf],h⟩
end Go.Proofs.YtaknchlegjcdhaaGreatDoor.Pr
namespace Go.Proofs.YtaknchlegjcdhaaGreatDoor.Pr
open Go.RowKit Go.Proofs.YtaknchlegjcdhaaGreatDoorW.PrintWords Go.Proofs.YtaknchlegjcdhaaGreatDoorW.PrintLast Go.Proofs.YtaknchlegjcdhaaGreatDoorW.PrintMore
attribute [local go_sem] max2_int min2_int max_two min_two max_three min_three max_four min_four
set_option maxHeartbeats 8000000
set_option maxRecDepth 100000
set_option linter.unusedVariables false
set_option linter.unusedSimpArgs false
def natural_both.j0:Nat→ByteArray→ByteArray→Bool→Option (List Int × List Int × Int)
 | 0,_,_,_=>none
 | k + 1,x0,x1,x14=>if x14 = true then (some (([]:List Int),([]:List Int),1)) else ((natural_read.f x0).bind fun t204=>((natural_read.f x1).bind fun t207=>(some (t204,t207,0))))
def natural_both.f (k:Nat) (a0:ByteArray) (a1:ByteArray):Option (List Int × List Int × Int):=(natural_Valid.f k a0).bind fun t202=>(if t202 = true then ((natural_Valid.f k a1).bind fun t203=>(natural_both.j0 k a0 a1 (!t203))) else (natural_both.j0 k a0 a1 true))
theorem natural_both.mono_l:∀ k,(∀ y0 y1 y2,LeO (natural_both.j0 k y0 y1 y2) (natural_both.j0 (k + 1) y0 y1 y2))
 | 0=>fun _ _ _ r h=>by simp [natural_both.j0] at h
 | k + 1=>by
  have ih0:=natural_both.mono_l k
  ·intro y0 y1 y2
   unfold natural_both.j0
   repeat' first
   | (with_reducible exact ih0 _ _ _)
   | (with_reducible exact natural_Valid.mono _ _)
   | (with_reducible exact LeO.refl _)
   | (with_reducible exact LeO.none _)
   | (with_reducible refine LeO.ite ?_ ?_)
   | (with_reducible refine LeO.bind ?_ (fun _=>?_))
   | exact ih0 _ _ _
   | exact natural_Valid.mono _ _
   | exact LeO.none _
   | refine LeO.ite ?_ ?_
   | refine LeO.bind ?_ (fun _=>?_)
theorem natural_both.mono:∀ a0 a1 k,LeO (natural_both.f k a0 a1) (natural_both.f (k + 1) a0 a1):=by
 intro a0 a1 k
 have ih0:=natural_both.mono_l k
 unfold natural_both.f
 repeat' first
   | (with_reducible exact ih0 _ _ _)
   | (with_reducible exact natural_Valid.mono _ _)
   | (with_reducible exact LeO.refl _)
   | (with_reducible exact LeO.none _)
   | (with_reducible refine LeO.ite ?_ ?_)
   | (with_reducible refine LeO.bind ?_ (fun _=>?_))
   | exact ih0 _ _ _
   | exact natural_Valid.mono _ _
   | exact LeO.none _
   | refine LeO.ite ?_ ?_
   | refine LeO.bind ?_ (fun _=>?_)
theorem natural_both.calls (k:Nat) (a0:ByteArray) (a1:ByteArray) (r1:List Int) (r2:List Int) (r3:Int) (w:World) (h:natural_both.f k a0 a1 = some (r1,r2,r3)) :
  Calls Tryz.prog 65 #[.string a0,.string a1] w fun e w'=>∃ v0_ v1_:Value,e = .returned (.tuple #[v0_,v1_,.int .i64 r3])∧Kd.R (Kd.int .u32) 95 w' w.heap.size (fun k_=>some k_≠(v1_:Value).ownBlock) v0_ r1∧Kd.R (Kd.int .u32) 95 w' w.heap.size (fun k_=>some k_≠(v0_:Value).ownBlock) v1_ r2∧Below w.heap.size w w':=by
 have HB:=Aside0.mk (Below.refl w.heap.size w)
 have H:((natural_Valid.f k a0).bind fun t202=>(if t202 = true then ((natural_Valid.f k a1).bind fun t203=>(natural_both.j0 k a0 a1 (!t203))) else (natural_both.j0 k a0 a1 true))) = some (r1,r2,r3):=h
 clear h
 have HC3:=Aside0.mk H
 clear H
 go_enter Tryz.func65,Tryz.ntmps65
 go_upto_region 1 with (fail)
 go_cut [14] (fun v14 wc=>∃ (kq:Nat) (x14_2:Bool),v14 = .bool x14_2∧Aside0 (natural_both.j0 kq a0 a1 x14_2 = some (r1,r2,r3))∧Aside0 (kq≤k)∧Aside0 (Below w.heap.size w wc))
 case first =>
  have H:=HC3.out
  clear HC3
  obtain ⟨t202,A4,H⟩:=bn_ H
  by_cases c5:t202 = true
  ·subst c5
   have H1:((natural_Valid.f k a1).bind fun t203=>(natural_both.j0 k a0 a1 (!t203))) = some (r1,r2,r3):=by rw [if_pos rfl] at H;exact H
   clear H
   have H:=H1
   clear H1
   obtain ⟨t203,A6,H⟩:=bn_ H
   have H':=Aside0.mk H
   clear H
   go_wp2_with (first|((with_reducible refine gate_callee (f:=74) rfl ?_);refine gm_ (some 8) Tryz.func74 #[.string a0] ?_;(with_reducible refine (natural_Valid.calls k a0 true _ A4.out).mono ?_);rintro e w' ⟨rfl,⟨nd,rfl⟩⟩;refine ⟨_,rfl,?_⟩)|(go_at_call 74;(with_reducible refine (natural_Valid.calls k a1 t203 _ A6.out).mono ?_);rintro e w' ⟨rfl,⟨nd,rfl⟩⟩))
   go_meet
   case rel=>exact ⟨_,(!t203),(by first|rfl|(simp;done)|(simp [*];done)),H',⟨by first|omega|exact Nat.le_refl _⟩,⟨bx_⟩⟩
  ·replace c5:=Bool.eq_false_iff.mpr c5
   subst c5
   have H1:(natural_both.j0 k a0 a1 true) = some (r1,r2,r3):=by rw [if_neg (show ¬ (false = true) by decide)] at H;exact H
   clear H
   have H:=H1
   clear H1
   have H':=Aside0.mk H
   clear H
   go_wp2_with (first|((with_reducible refine gate_callee (f:=74) rfl ?_);refine gm_ (some 8) Tryz.func74 #[.string a0] ?_;(with_reducible refine (natural_Valid.calls k a0 false _ A4.out).mono ?_);rintro e w' ⟨rfl,⟨nd,rfl⟩⟩;refine ⟨_,rfl,?_⟩))
   go_meet
   case rel=>exact ⟨_,(true),(by first|rfl|(simp;done)|(simp [*];done)),H',⟨by first|omega|exact Nat.le_refl _⟩,⟨bx_⟩⟩
 case rest =>
  clear HC3
  try clear p2
  try clear c5
  try clear c6
  obtain ⟨kq,x14_2,rfl,HA,HJ2,HB⟩:=hcut
  cases kq with
  | zero=>exact absurd HA.out (by simp [natural_both.j0])
  | succ kj2 =>
   have H:=HA.out
   clear HA
   simp only [natural_both.j0] at H
   by_cases c7:x14_2 = true
   ·subst c7
    have H1:(some (([]:List Int),([]:List Int),1)) = some (r1,r2,r3):=by rw [if_pos rfl] at H;exact H
    clear H
    have H:=H1
    clear H1
    simp only [Option.some.injEq,Prod.mk.injEq] at H
    obtain ⟨rfl,rfl,rfl⟩:=H
    go_wp2
    go_ret3
    exact ⟨_,_,rf_,by first|exact Kd.R_nil _ _ _ _ _|exact Kd.N_nil _ _ _ _ _|exact Kd.V_nil _ _ _ _ _|exact Kd.Q_nil _ _ _ _ _|exact Kd.S_nil _ _ _ _ _,by first|exact Kd.R_nil _ _ _ _ _|exact Kd.N_nil _ _ _ _ _|exact Kd.V_nil _ _ _ _ _|exact Kd.Q_nil _ _ _ _ _|exact Kd.S_nil _ _ _ _ _,bx_⟩
   ·replace c7:=Bool.eq_false_iff.mpr c7
    subst c7
    have H1:((natural_read.f a0).bind fun t204=>((natural_read.f a1).bind fun t207=>(some (t204,t207,0)))) = some (r1,r2,r3):=by rw [if_neg (show ¬ (false = true) by decide)] at H;exact H
    clear H
    have H:=H1
    clear H1
    obtain ⟨t204,A8,H⟩:=bn_ H
    obtain ⟨t207,A9,H⟩:=bn_ H
    simp only [Option.some.injEq,Prod.mk.injEq] at H
    obtain ⟨rfl,rfl,rfl⟩:=H
    go_wp2_with (first|((with_reducible refine gate_callee (f:=90) rfl ?_);refine gm_ (some 16) Tryz.func90 #[.string a0] ?_;(with_reducible refine (natural_read.calls a0 t204 _ A8.out).mono ?_);rintro e w10 ⟨v205,rfl,ho0,hb⟩;refine ⟨_,rfl,?_⟩;have HO206:=Aside0.mk (Kd.R_lower ho0 (below_size bx_));replace HB:=bs_ hb;(try clear hb);(try clear ho0))|((with_reducible refine gate_callee (f:=90) rfl ?_);refine gm_ (some 18) Tryz.func90 #[.string a1] ?_;(with_reducible refine (natural_read.calls a1 t207 _ A9.out).mono ?_);rintro e w11 ⟨v208,rfl,ho0,hb⟩;refine ⟨_,rfl,?_⟩;have HO209:=Aside0.mk (Kd.R_lower (Kd.R_new' ho0 (Kd.R_lt (by (with_reducible repeat (first|apply Kd.R_alloc|apply Kd.R_drewN|apply Kd.R_drew));exact HO206.out))) (below_size bx_));replace HO206:=Aside0.mk (Kd.R_elder' (by (with_reducible repeat (first|apply Kd.R_alloc|apply Kd.R_drewN|apply Kd.R_drew));exact HO206.out) (Kd.R_base ho0) hb);replace HB:=bs_ hb;(try clear hb);(try clear ho0)))
    go_ret3
    exact ⟨_,_,rf_,by (with_reducible repeat (first|apply Kd.R_alloc|apply Kd.R_drewN|apply Kd.R_drew));exact Kd.R_mono HO206.out (fun _ hk=>hk.2),by (with_reducible repeat (first|apply Kd.R_alloc|apply Kd.R_drewN|apply Kd.R_drew));exact Kd.R_mono HO209.out (fun _ hk=>hk.2),bx_⟩
end Go.Proofs.YtaknchlegjcdhaaGreatDoor.Pr
set_option linter.unusedVariables false
set_option linter.unusedSimpArgs false
namespace Go.Proofs.YtaknchlegjcdhaaGreatDoor.Pr
open Go.RowKit Go.Proofs.YtaknchlegjcdhaaGreatDoorW.PrintWords Go.Proofs.YtaknchlegjcdhaaGreatDoorW.PrintLast Go.Proofs.YtaknchlegjcdhaaGreatDoorW.PrintMore Go.Proofs.YtaknchlegjcdhaaGreatDoor.NatTh
def Sh (a:ByteArray):Prop:=a.size≤274877906944
instance (a:ByteArray):Decidable (Sh a):=by
 unfold Sh
 infer_instance
def bothV (a b:ByteArray):List Int × List Int × Int:=if (nv a && nv b) = true then (numOf (nat a),numOf (nat b),0) else ([],[],1)
theorem both_ev (a b:ByteArray) (ha:Sh a) (hb:Sh b):Ev (fun k=>natural_both.f k a b) (bothV a b):=by
 unfold Sh at ha hb
 have va:=Valid_ev a (by omega)
 have vb:=Valid_ev b (by omega)
 unfold bothV
 cases hna:nv a with
 | false =>
  rw [hna] at va
  rw [Bool.false_and,if_neg (by simp)]
  refine Ev.congr (f:=fun k=>(natural_Valid.f k a).bind fun t=>(if t = true then ((natural_Valid.f k b).bind fun t142=>(natural_both.j0 k a b (!t142))) else (natural_both.j0 k a b true))) (fun k=>rfl) (Ev.bind va ?_)
  refine Ev.congr (f:=fun k=>natural_both.j0 k a b true) (fun k=>if_neg (by simp)) ?_
  refine Ev.step (f:=fun k=>some ([],[],1)) (fun k=>?_) (Ev.now _)
  rw [natural_both.j0,if_pos (by rfl)]
 | true =>
  rw [hna] at va
  rw [Bool.true_and]
  refine Ev.congr (f:=fun k=>(natural_Valid.f k a).bind fun t=>(if t = true then ((natural_Valid.f k b).bind fun t142=>(natural_both.j0 k a b (!t142))) else (natural_both.j0 k a b true))) (fun k=>rfl) (Ev.bind va ?_)
  refine Ev.congr (f:=fun k=>((natural_Valid.f k b).bind fun t142=>(natural_both.j0 k a b (!t142)))) (fun k=>if_pos rfl) (Ev.bind vb ?_)
  cases hnb:nv b with
  | false =>
   rw [if_neg (by simp)]
   refine Ev.step (f:=fun k=>some ([],[],1)) (fun k=>?_) (Ev.now _)
   rw [natural_both.j0,if_pos (by rfl)]
  | true =>
   rw [if_pos rfl]
   refine Ev.step (f:=fun k=>some (numOf (nat a),numOf (nat b),0)) (fun k=>?_) (Ev.now _)
   rw [natural_both.j0,if_neg (by simp),read_eq a (by omega) hna,read_eq b (by omega) hnb]
   rfl
theorem nat_can (a:ByteArray) (h:nv a = true) (ha:Sh a):(numOf (nat a)).length≤274877906944:=Nat.le_trans (nat_len a h) ha
end Go.Proofs.YtaknchlegjcdhaaGreatDoor.Pr
namespace Go.Proofs.YtaknchlegjcdhaaGreatDoor.Pa
open Go.RowKit Go.Proofs.YtaknchlegjcdhaaGreatDoorW.PrintWords Go.Proofs.YtaknchlegjcdhaaGreatDoorW.PrintLast Go.Proofs.YtaknchlegjcdhaaGreatDoorW.PrintMore
attribute [local go_sem] max2_int min2_int max_two min_two max_three min_three max_four min_four
set_option linter.unusedVariables false
set_option linter.unusedSimpArgs false
def errW:Option Int→Value
 | none=>.nilIface
 | some c=>.iface 152 (.int .i64 c)
theorem errW_none:errW none = .nilIface:=rfl
theorem errW_some (c:Int):errW (some c) = .iface 152 (.int .i64 c):=rfl
theorem info95:(Tryz.prog.info? 95).map (fun i=>(i.zero,i.size,i.bytes)) = some (some (.int .u32 0),1,4):=by kernel_rfl
end Go.Proofs.YtaknchlegjcdhaaGreatDoor.Pa
namespace Go.Proofs.YtaknchlegjcdhaaGreatDoor.Pa
open Go.RowKit Go.Proofs.YtaknchlegjcdhaaGreatDoorW.PrintWords Go.Proofs.YtaknchlegjcdhaaGreatDoorW.PrintLast Go.Proofs.YtaknchlegjcdhaaGreatDoorW.PrintMore
def LaidW (w:World):Prop:=Pr.LaidW w
theorem LaidW.below {w w':World} (h:LaidW w) (hb:Below w.heap.size w w'):LaidW w':=Pr.LaidW.below h hb
def natural_both.f (k:Nat) (a0 a1:ByteArray):Option (List Int × List Int × Int):=Pr.natural_both.f k a0 a1
theorem natural_both.mono:∀ a0 a1 k,LeO (natural_both.f k a0 a1) (natural_both.f (k + 1) a0 a1):=Pr.natural_both.mono
theorem natural_both.calls (k:Nat) (a0:ByteArray) (a1:ByteArray) (r1:List Int) (r2:List Int) (r3:Int) (w:World) (h:natural_both.f k a0 a1 = some (r1,r2,r3)) :
  Calls Tryz.prog 65 #[.string a0,.string a1] w fun e w'=>∃ v0_ v1_:Value,e = .returned (.tuple #[v0_,v1_,.int .i64 r3])∧Kd.R (Kd.int .u32) 95 w' w.heap.size (fun k_=>some k_≠(v1_:Value).ownBlock) v0_ r1∧Kd.R (Kd.int .u32) 95 w' w.heap.size (fun k_=>some k_≠(v0_:Value).ownBlock) v1_ r2∧Below w.heap.size w w':=Pr.natural_both.calls k a0 a1 r1 r2 r3 w h
def natural_num_compare.f (k:Nat) (l0 l1:List Int):Option Int:=Pr.natural_num_compare.f k l0 l1
theorem natural_num_compare.calls (k:Nat) (A0:Option Addr) (c0:Nat) (l0:List Int) (A1:Option Addr) (c1:Nat) (l1:List Int) (r:Int) (w:World) (hr0:Kd.C (Kd.int .u32) w A0 l0.length l0) (hc0:l0.length≤c0) (hr1:Kd.C (Kd.int .u32) w A1 l1.length l1) (hc1:l1.length≤c1) (h:natural_num_compare.f k l0 l1 = some r) :
  Calls Tryz.prog 66 #[.slice A0 l0.length c0,.slice A1 l1.length c1] w fun e w'=>e = .returned (.int .i64 r)∧Drawn0 w w':=Pr.natural_num_compare.calls k A0 c0 l0 A1 c1 l1 r w hr0 hc0 hr1 hc1 h
end Go.Proofs.YtaknchlegjcdhaaGreatDoor.Pa
namespace Go.Proofs.YtaknchlegjcdhaaGreatDoor.Pr
set_option linter.unusedVariables false
set_option linter.unusedSimpArgs false
open Go.RowKit Go.Shelf Go.Lib Go.Proofs.YtaknchlegjcdhaaGreatDoor.NatTh Go.Proofs.YtaknchlegjcdhaaGreatDoorW.PrintWords Go.Proofs.YtaknchlegjcdhaaGreatDoorW.PrintLast Go.Proofs.YtaknchlegjcdhaaGreatDoorW.PrintMore
def Gives (r:List Int) (w:World) (e:Ending) (w':World):Prop:=∃ A c,e = .returned (.slice A r.length c)∧Kd.C (Kd.int .u32) w' A r.length r∧r.length≤c∧Below w.heap.size w w'
set_option maxHeartbeats 1000000 in
theorem apply38 (vn vm:Value) (r:List Int) (s:ByteArray) (w:World) (hL:LaidW w) (hm:Calls Tryz.prog 109 #[vn,vm] w (Gives r w)) (ht:natural_num_text.f r = some s) :
  Calls Tryz.prog 67 #[.func (.func 109) #[vn] #[],vm] w fun e w'=>e = .returned (.tuple #[.string s,.int .i64 0])∧Below w.heap.size w w':=by
 have HT:=Lib.hid ht
 have HL:=Lib.hid hL
 clear ht hL
 go_enter Tryz.func67,Tryz.ntmps67
 go_wp2_with (first|(go_at_call 109;refine hm.mono ?_;rintro e w1 ⟨A,c,rfl,hC,hc,hb⟩;have HB:=Lib.hid hb;have HC:=Lib.hid hC;have Hc:=Lib.hid hc;clear hb hC hc)|(go_at_call 70;refine (natural_num_text.calls _ _ r s _ HC.out Hc.out (HL.out.below HB.out) HT.out).mono ?_;rintro e w2 ⟨rfl,hb2⟩;have HB2:=Lib.hid hb2;clear hb2))
 go_ret2
 exact ⟨rfl,below_step HB.out HB2.out⟩
set_option maxHeartbeats 1000000 in
theorem apply41 (vn vm:Value) (r:List Int) (s:ByteArray) (w:World) (hL:LaidW w) (hm:Calls Tryz.prog 110 #[vn,vm] w (Gives r w)) (ht:natural_num_text.f r = some s) :
  Calls Tryz.prog 67 #[.func (.func 110) #[vn] #[],vm] w fun e w'=>e = .returned (.tuple #[.string s,.int .i64 0])∧Below w.heap.size w w':=by
 have HT:=Lib.hid ht
 have HL:=Lib.hid hL
 clear ht hL
 go_enter Tryz.func67,Tryz.ntmps67
 go_wp2_with (first|(go_at_call 110;refine hm.mono ?_;rintro e w1 ⟨A,c,rfl,hC,hc,hb⟩;have HB:=Lib.hid hb;have HC:=Lib.hid hC;have Hc:=Lib.hid hc;clear hb hC hc)|(go_at_call 70;refine (natural_num_text.calls _ _ r s _ HC.out Hc.out (HL.out.below HB.out) HT.out).mono ?_;rintro e w2 ⟨rfl,hb2⟩;have HB2:=Lib.hid hb2;clear hb2))
 go_ret2
 exact ⟨rfl,below_step HB.out HB2.out⟩
set_option maxHeartbeats 1000000 in
theorem apply43 (vn vm:Value) (r:List Int) (s:ByteArray) (w:World) (hL:LaidW w) (hm:Calls Tryz.prog 96 #[vn,vm] w (Gives r w)) (ht:natural_num_text.f r = some s) :
  Calls Tryz.prog 67 #[.func (.func 96) #[vn] #[],vm] w fun e w'=>e = .returned (.tuple #[.string s,.int .i64 0])∧Below w.heap.size w w':=by
 have HT:=Lib.hid ht
 have HL:=Lib.hid hL
 clear ht hL
 go_enter Tryz.func67,Tryz.ntmps67
 go_wp2_with (first|(go_at_call 96;refine hm.mono ?_;rintro e w1 ⟨A,c,rfl,hC,hc,hb⟩;have HB:=Lib.hid hb;have HC:=Lib.hid hC;have Hc:=Lib.hid hc;clear hb hC hc)|(go_at_call 70;refine (natural_num_text.calls _ _ r s _ HC.out Hc.out (HL.out.below HB.out) HT.out).mono ?_;rintro e w2 ⟨rfl,hb2⟩;have HB2:=Lib.hid hb2;clear hb2))
 go_ret2
 exact ⟨rfl,below_step HB.out HB2.out⟩
end Go.Proofs.YtaknchlegjcdhaaGreatDoor.Pr
namespace Go.Proofs.YtaknchlegjcdhaaGreatDoor.Pr
set_option linter.unusedVariables false
set_option linter.unusedSimpArgs false
open Go.RowKit Go.Proofs.YtaknchlegjcdhaaGreatDoor.NatTh
def findBlock (n:Nat):Code→Option Code
 | .block m c=>if m = n then some (.block m c) else findBlock n c
 | .seq a b=>match findBlock n a with
  | some c=>some c
  | none=>findBlock n b
 | .loop c=>findBlock n c
 | .cond _ a b=>match findBlock n a with
  | some c=>some c
  | none=>findBlock n b
 | _=>none
noncomputable def blk (n:Nat):Code:=(Tryz.f69.body.bind (findBlock n)).getD .skip
noncomputable def blkIn (n:Nat):Code :=
 match blk n with
 | .block _ c=>c
 | c=>c
theorem w64n {x:Int} {n:Nat} (h:x = n) (hn:n < 9223372036854775808):wrap64 x = n:=by
 rw [h]
 exact w64 (by omega) (by omega)
structure GN (u v:List Int) (j a1 a2 b0 b2:Nat) (x1 x2 y2:Int):Prop where
 i1:wrap64 ((v.length:Int) - 1) = (a1:Int)
 i2:wrap64 ((v.length:Int) - 2) = (a2:Int)
 i3:wrap64 ((j:Int) + (v.length:Int)) = (b0:Int)
 i4:wrap64 ((b0:Int) - 2) = (b2:Int)
 l1:a1 < v.length
 l2:a2 < v.length
 l3:b2 < u.length
 e1:a1 = v.length - 1
 e2:a2 = v.length - 2
 e3:b2 = j + v.length - 2
 x1e:v.getD a1 0 = x1
 x2e:v.getD a2 0 = x2
 y2e:u.getD b2 0 = y2
 x10:0 < x1
 x11:x1 < 1000000000
 x20:0≤x2
 x21:x2 < 1000000000
 y20:0≤y2
 y21:y2 < 1000000000
 wx1:IntKind.u64.wrap x1 = x1
 wx2:IntKind.u64.wrap x2 = x2
 wy2:IntKind.u64.wrap y2 = y2
theorem gn (u v:List Int) (j:Nat) (hP:NatTh.Place u v j) (hs:u.length < 1099511627776):∃ a1 a2 b0 b2 x1 x2 y2,GN u v j a1 a2 b0 b2 x1 x2 y2:=by
 have hk2:=hP.k2
 have hfit:=hP.fit
 have v1:=hP.wv.getD (v.length - 1)
 have v2:=hP.wv.getD (v.length - 2)
 have u2:=hP.wu.getD (j + v.length - 2)
 have ht:=hP.top
 rw [BB] at v1 v2 u2
 exact ⟨v.length - 1,v.length - 2,j + v.length,j + v.length - 2,_,_,_,w64n (by omega) (by omega),w64n (by omega) (by omega),w64n (by omega) (by omega),w64n (by omega) (by omega),by omega,by omega,by omega,rfl,rfl,rfl,rfl,rfl,rfl,ht,v1.2,v2.1,v2.2,u2.1,u2.2,u64w (by omega) (by omega),u64w (by omega) (by omega),u64w (by omega) (by omega)⟩
theorem guess_dec {u v:List Int} {j:Nat} {g r:Int} (h:NatTh.Guess u v j g r) (hg:1≤g):IntKind.u64.wrap (g - 1) = g - 1:=by
 have:=h.hi
 rw [BB] at this
 exact u64w (by omega) (by omega)
theorem guess_rest {r x:Int} (h1:0≤r) (h2:r < B) (h3:0 < x) (h4:x < 1000000000):IntKind.u64.wrap (r + x) = r + x:=by
 rw [BB] at h2
 exact u64w (by omega) (by omega)
theorem guess_mul {g x:Int} (h1:0≤g) (h2:g≤2 * B) (h3:0≤x) (h4:x < 1000000000):IntKind.u64.wrap (g * x) = g * x:=by
 rw [BB] at h2
 have h5:=Int.mul_nonneg h1 h3
 have h6:g * x≤2000000000 * 1000000000:=Int.mul_le_mul (by omega) (by omega) h3 (by decide)
 exact u64w h5 (by omega)
theorem guess_rb {r:Int} (h1:0≤r) (h2:r < B):IntKind.u64.wrap (r * 1000000000) = r * 1000000000:=by
 rw [BB] at h2
 exact u64w (by omega) (by omega)
theorem guess_rby {r y:Int} (h1:0≤r) (h2:r < B) (h3:0≤y) (h4:y < 1000000000):IntKind.u64.wrap (r * 1000000000 + y) = r * 1000000000 + y:=by
 rw [BB] at h2
 exact u64w (by omega) (by omega)
theorem guess_lt {x:Int} (h:¬ 1000000000≤x):x < B:=by
 rw [BB]
 omega
theorem guess_meas {g:Int} (h:1≤g):(intOf (.int .u64 (g - 1))).toNat < (intOf (.int .u64 g)).toNat:=by
 simp [intOf]
 omega
end Go.Proofs.YtaknchlegjcdhaaGreatDoor.Pr
namespace Go.Proofs.YtaknchlegjcdhaaGreatDoor.Pr
set_option linter.unusedVariables false
set_option linter.unusedSimpArgs false
open Go.RowKit Go.Proofs.YtaknchlegjcdhaaGreatDoor.NatTh Go.Proofs.YtaknchlegjcdhaaGreatDoorW.PrintWords Go.Proofs.YtaknchlegjcdhaaGreatDoorW.PrintLast Go.Proofs.YtaknchlegjcdhaaGreatDoorW.PrintMore
set_option maxRecDepth 1000000 in
set_option maxHeartbeats 4000000 in
theorem guess_loop (K:Act→World→Prop) (Q0:Exit→Act→World→Prop) (w:World) (gu cu gv cv j:Nat) (u v:List Int) (g0 r0:Int) (u0 u1 u2 u3 u4 u5 u6 u7 u8 u9 u10 u14 u16 u19 u20 u21 u22 u23 u24 u25 u26 u27 u28 u29 u30 u31 u32 u33 u34 u35 u36 u37 u38 u39 u40 u41 u42 u43 u44 u45 u46 u47 u48 u49 u50 u51 u52 u53 u54 u55 u56 u57 u58 u59 u60 u61 u62 u63 u64 u65 u66 u67 u68 u69 u70 u71 u72 u73 u74 u75 u76 u77 u78 u79 u80 u81 u82 u83 u84 u85 u86 u87 u88 u89 u90 u91 u92 u93 u94 u95 u96 u97 u98 u99 u100 u101 u102 u103 u104 u105 u106 u107 u108 u109 u110 u111 u112 u113 u114 u115 u116 u117 u118 u119 u120 u121 u122 u123 u124 u125 u126 u127 u128 u129 u130 u131 u132 u133 u134 u135 u136 u137 u138 u139 u140 u141 u142 u143 u144 u145 u146 u147 u148 u149 u150 u151 u152 u153 u154 u155 u156 u157 u158 u159 u160 u161 u162 u163 u164 u165 u166 u167 u168 u169 u170 u171 u172 u173 u174 u175 u176 u177 u178 u179 u180 u181 u182 u183 u184 u185 u186 u187 u188 u189 u190 u191 u192 u193 u194 u195 u196 u197 u198 u199 u200 u201 u202 u203 u204 u205 u206 u207 u208 u209 u210 u211 u212 u213 u214 u215 u216 u217 u218 u219 u220 u221 u222 u223 u224 u225 u226 u227 u228 u229 u230 u231 u232 u233 u234 u235 u236 u237 u238 u239 u240 u241 u242 u243 u244 u245 u246 u247 u248 u249 u250 u251 u252 u253 u254 u255 u256 u257 u258 u259 u260 u261 u262 u263 u264 u265 u266 u267 u268 u269 u270 u271 u272 u273 u274 u275 u276 u277 u278 u279 u280 u281 u282 u283 u284 u285 u286 u287 u288 u289 u290 u291 u292 u293 u294 u295 u296 u297 u298:Value)
  (hP:NatTh.Place u v j) (hs:u.length < 1099511627776) (hG:Guess u v j g0 r0) (hr:r0 < B)
  (hcu:∀ i,i < u.length→w.cell? ⟨gu,i,none⟩ = some (.int .u32 (u.getD i 0))) (hcv:∀ i,i < v.length→w.cell? ⟨gv,i,none⟩ = some (.int .u32 (v.getD i 0)))
  (hK:∀ (m:Nat) (g:Int) (y18 y144 y145 y146 y147 y148 y149 y150 y151 y152 y153 y154 y155 y156 y157 y158 y159 y160 y161 y162 y163 y164 y165 y166 y167 y168 y169 y170 y171 y172 y173 y174 y175 y176 y177 y178 y179:Value),g = qw u v j ∨ g = qw u v j + 1→K ⟨#[u0,u1,u2,u3,u4,u5,u6,u7,u8,u9,u10,.slice (some ⟨gu,0,none⟩) u.length cu,.slice (some ⟨gv,0,none⟩) v.length cv,.int .i64 v.length,u14,.int .i64 j,u16,.int .u64 g,y18,u19,u20,u21,u22,u23,u24,u25,u26,u27,u28,u29,u30,u31,u32,u33,u34,u35,u36,u37,u38,u39,u40,u41,u42,u43,u44,u45,u46,u47,u48,u49,u50,u51,u52,u53,u54,u55,u56,u57,u58,u59,u60,u61,u62,u63,u64,u65,u66,u67,u68,u69,u70,u71,u72,u73,u74,u75,u76,u77,u78,u79,u80,u81,u82,u83,u84,u85,u86,u87,u88,u89,u90,u91,u92,u93,u94,u95,u96,u97,u98,u99,u100,u101,u102,u103,u104,u105,u106,u107,u108,u109,u110,u111,u112,u113,u114,u115,u116,u117,u118,u119,u120,u121,u122,u123,u124,u125,u126,u127,u128,u129,u130,u131,u132,u133,u134,u135,u136,u137,u138,u139,u140,u141,u142,u143,y144,y145,y146,y147,y148,y149,y150,y151,y152,y153,y154,y155,y156,y157,y158,y159,y160,y161,y162,y163,y164,y165,y166,y167,y168,y169,y170,y171,y172,y173,y174,y175,y176,y177,y178,y179,u180,u181,u182,u183,u184,u185,u186,u187,u188,u189,u190,u191,u192,u193,u194,u195,u196,u197,u198,u199,u200,u201,u202,u203,u204,u205,u206,u207,u208,u209,u210,u211,u212,u213,u214,u215,u216,u217,u218,u219,u220,u221,u222,u223,u224,u225,u226,u227,u228,u229,u230,u231,u232,u233,u234,u235,u236,u237,u238,u239,u240,u241,u242,u243,u244,u245,u246,u247,u248,u249,u250,u251,u252,u253,u254,u255,u256,u257,u258,u259,u260,u261,u262,u263,u264,u265,u266,u267,u268,u269,u270,u271,u272,u273,u274,u275,u276,u277,u278,u279,u280,u281,u282,u283,u284,u285,u286,u287,u288,u289,u290,u291,u292,u293,u294,u295,u296,u297,u298],[]⟩ (w.drewN m)) :
  Code.wp Tryz.prog (blkIn 3) (Exit.inBlock 3 (Exit.then K Q0)) ⟨#[u0,u1,u2,u3,u4,u5,u6,u7,u8,u9,u10,.slice (some ⟨gu,0,none⟩) u.length cu,.slice (some ⟨gv,0,none⟩) v.length cv,.int .i64 v.length,u14,.int .i64 j,u16,.int .u64 g0,.int .u64 r0,u19,u20,u21,u22,u23,u24,u25,u26,u27,u28,u29,u30,u31,u32,u33,u34,u35,u36,u37,u38,u39,u40,u41,u42,u43,u44,u45,u46,u47,u48,u49,u50,u51,u52,u53,u54,u55,u56,u57,u58,u59,u60,u61,u62,u63,u64,u65,u66,u67,u68,u69,u70,u71,u72,u73,u74,u75,u76,u77,u78,u79,u80,u81,u82,u83,u84,u85,u86,u87,u88,u89,u90,u91,u92,u93,u94,u95,u96,u97,u98,u99,u100,u101,u102,u103,u104,u105,u106,u107,u108,u109,u110,u111,u112,u113,u114,u115,u116,u117,u118,u119,u120,u121,u122,u123,u124,u125,u126,u127,u128,u129,u130,u131,u132,u133,u134,u135,u136,u137,u138,u139,u140,u141,u142,u143,u144,u145,u146,u147,u148,u149,u150,u151,u152,u153,u154,u155,u156,u157,u158,u159,u160,u161,u162,u163,u164,u165,u166,u167,u168,u169,u170,u171,u172,u173,u174,u175,u176,u177,u178,u179,u180,u181,u182,u183,u184,u185,u186,u187,u188,u189,u190,u191,u192,u193,u194,u195,u196,u197,u198,u199,u200,u201,u202,u203,u204,u205,u206,u207,u208,u209,u210,u211,u212,u213,u214,u215,u216,u217,u218,u219,u220,u221,u222,u223,u224,u225,u226,u227,u228,u229,u230,u231,u232,u233,u234,u235,u236,u237,u238,u239,u240,u241,u242,u243,u244,u245,u246,u247,u248,u249,u250,u251,u252,u253,u254,u255,u256,u257,u258,u259,u260,u261,u262,u263,u264,u265,u266,u267,u268,u269,u270,u271,u272,u273,u274,u275,u276,u277,u278,u279,u280,u281,u282,u283,u284,u285,u286,u287,u288,u289,u290,u291,u292,u293,u294,u295,u296,u297,u298],[]⟩ w:=by
 conv=>arg 2;whnf
 have HCU:=Aside0.mk hcu
 have HCV:=Aside0.mk hcv
 have HKK:=Aside0.mk hK
 clear hcu hcv hK
 go_wp2
 go_loopw [17,18] (fun a b wr=>∃ g r:Int,a = .int .u64 g∧b = .int .u64 r∧Aside0 (Guess u v j g r)∧Aside0 (r < B)∧∃ m:Nat,wr = w.drewN m) (fun a _ _=>(intOf a).toNat)
 case atStart=>exact ⟨g0,r0,rfl,rfl,⟨hG⟩,⟨hr⟩,0,(World.drewN_zero _).symm⟩
 case round =>
  obtain ⟨g,r,rfl,rfl,HG,HR,m,rfl⟩:=hrel
  obtain ⟨a1,a2,b0,b2,x1,x2,y2,N⟩:=gn u v j hP hs
  have c1:w.cell? ⟨gv,a1,none⟩ = some (.int .u32 x1):=by rw [← N.x1e];exact HCV.out a1 N.l1
  have c2:w.cell? ⟨gv,a2,none⟩ = some (.int .u32 x2):=by rw [← N.x2e];exact HCV.out a2 N.l2
  have c3:w.cell? ⟨gu,b2,none⟩ = some (.int .u32 y2):=by rw [← N.y2e];exact HCU.out b2 N.l3
  have i1:=N.i1
  have i2:=N.i2
  have i3:=N.i3
  have i4:=N.i4
  have q1:IntKind.i64.wrap ((v.length:Int) - 1) = (a1:Int):=(i64_w _).trans N.i1
  have q2:IntKind.i64.wrap ((v.length:Int) - 2) = (a2:Int):=(i64_w _).trans N.i2
  have q3:IntKind.i64.wrap ((j:Int) + (v.length:Int)) = (b0:Int):=(i64_w _).trans N.i3
  have q4:IntKind.i64.wrap ((b0:Int) - 2) = (b2:Int):=(i64_w _).trans N.i4
  have l1:=N.l1
  have l2:=N.l2
  have l3:=N.l3
  have s1:=N.wx1
  have s2:=N.wx2
  have s3:=N.wy2
  have s5:IntKind.u64.wrap (r + x1) = r + x1:=by
   have h1:=HG.out.r0
   have h2:=HR.out
   have h3:=N.x10
   have h4:=N.x11
   exact guess_rest h1 h2 h3 h4
  have hcont:∀ (hc:B≤g ∨ r * B + y2 < g * x2),Guess u v j (g - 1) (r + x1)∧1≤g:=by
   intro hc
   have h:=HG.out.step hP
   rw [← N.e1,← N.e2,← N.e3,N.x1e,N.x2e,N.y2e] at h
   exact h hc
  have hdone:∀ (g' r':Int),Guess u v j g' r'→(B≤r' ∨ (g' < B∧g' * x2≤r' * B + y2))→g' = qw u v j ∨ g' = qw u v j + 1:=by
   intro g' r' hG' hc
   have h:=hG'.done hP
   rw [← N.e2,← N.e3,N.x2e,N.y2e] at h
   exact h hc
  have HC:=Aside0.mk hcont
  have HD:=Aside0.mk hdone
  clear hcont hdone
  have s6:IntKind.u64.wrap (g * x2) = g * x2:=guess_mul HG.out.g0 HG.out.hi N.x20 N.x21
  have s7:IntKind.u64.wrap (r * 1000000000) = r * 1000000000:=guess_rb HG.out.r0 HR.out
  have s8:IntKind.u64.wrap (r * 1000000000 + y2) = r * 1000000000 + y2:=guess_rby HG.out.r0 HR.out N.y20 N.y21
  by_cases hB:1000000000≤g
  ·have hd:decide (1000000000≤g) = true:=decide_eq_true hB
   have s4:IntKind.u64.wrap (g - 1) = g - 1:=guess_dec HG.out (Int.le_trans (by decide) hB)
   have hst:=HC.out (.inl hB)
   have HST:=Aside0.mk hst
   clear hst
   go_wp2
   go_quiet (fail)
   by_cases hR:1000000000≤r + x1
   ·have hd2:decide (1000000000≤r + x1) = true:=decide_eq_true hR
    go_wp2
    exact HKK.out _ _ _ _ _ _ _ _ _ _ _ _ _ _ _ _ _ _ _ _ _ _ _ _ _ _ _ _ _ _ _ _ _ _ _ _ _ _ _ (HD.out _ _ HST.out.1 (.inl hR))
   ·have hd2:decide (1000000000≤r + x1) = false:=decide_eq_false hR
    go_wp2
    go_roundw
    case rel=>exact ⟨g - 1,r + x1,rfl,rfl,⟨HST.out.1⟩,⟨guess_lt hR⟩,_,rfl⟩
    case measure=>exact guess_meas HST.out.2
  ·have hd:decide (1000000000≤g) = false:=decide_eq_false hB
   by_cases hX:r * 1000000000 + y2 < g * x2
   ·have hd3:decide (r * 1000000000 + y2 < g * x2) = true:=decide_eq_true hX
    have hst:=HC.out (.inr hX)
    have HST:=Aside0.mk hst
    clear hst
    have s4:IntKind.u64.wrap (g - 1) = g - 1:=guess_dec HG.out HST.out.2
    go_wp2
    go_quiet (fail)
    by_cases hR:1000000000≤r + x1
    ·have hd2:decide (1000000000≤r + x1) = true:=decide_eq_true hR
     go_wp2
     exact HKK.out _ _ _ _ _ _ _ _ _ _ _ _ _ _ _ _ _ _ _ _ _ _ _ _ _ _ _ _ _ _ _ _ _ _ _ _ _ _ _ (HD.out _ _ HST.out.1 (.inl hR))
    ·have hd2:decide (1000000000≤r + x1) = false:=decide_eq_false hR
     go_wp2
     go_roundw
     case rel=>exact ⟨g - 1,r + x1,rfl,rfl,⟨HST.out.1⟩,⟨guess_lt hR⟩,_,rfl⟩
     case measure=>exact guess_meas HST.out.2
   ·have hd3:decide (r * 1000000000 + y2 < g * x2) = false:=decide_eq_false hX
    have hfin:=HD.out _ _ HG.out (.inr ⟨Int.not_le.1 hB,Int.not_lt.1 hX⟩)
    have HFIN:=Aside0.mk hfin
    clear hfin
    go_wp2
    go_quiet (fail)
    go_wp2
    rw [World.drewN_drewN]
    exact HKK.out _ _ _ _ _ _ _ _ _ _ _ _ _ _ _ _ _ _ _ _ _ _ _ _ _ _ _ _ _ _ _ _ _ _ _ _ _ _ _ HFIN.out
end Go.Proofs.YtaknchlegjcdhaaGreatDoor.Pr
namespace Go.Proofs.YtaknchlegjcdhaaGreatDoor.Pr
set_option linter.unusedVariables false
set_option linter.unusedSimpArgs false
open Go.RowKit Go.Proofs.YtaknchlegjcdhaaGreatDoor.NatTh Go.Proofs.YtaknchlegjcdhaaGreatDoorW.PrintWords Go.Proofs.YtaknchlegjcdhaaGreatDoorW.PrintLast Go.Proofs.YtaknchlegjcdhaaGreatDoorW.PrintMore
def Rw (W:World) (base g c:Nat) (l:List Int):Prop:=Kd.R (Kd.int .u32) 95 W base (fun k=>k = g) (.slice (some ⟨g,0,none⟩) l.length c) l
theorem Rw.cell {W:World} {base g c:Nat} {l:List Int} (h:Rw W base g c l) (i:Nat) (hi:i < l.length):W.cell? ⟨g,i,none⟩ = some (.int .u32 (l.getD i 0))∧W.frozen? ⟨g,i,none⟩ = false:=by
 have h1:=Kd.R_celln 0 h (i:Int) (by omega) (by omega)
 rw [Int.toNat_natCast] at h1
 refine ⟨h1.1.trans ?_,h1.2⟩
 rw [show rdOf 0 l (i:Int) = rd l (i:Int) from rfl,rd_eq]
theorem Rw.put {W:World} {base g c:Nat} {l:List Int} (h:Rw W base g c l) (i:Nat) (x:Int):Rw (W.setCell ⟨g,i,none⟩ (.int .u32 x)) base g c (l.set i x):=by
 have h1:=(Kd.R_putg h (i:Int) x).1
 rw [Int.toNat_natCast] at h1
 unfold Rw
 rw [List.length_set]
 exact h1
theorem Rw.far {W:World} {base g c g':Nat} {l:List Int} (h:Rw W base g c l) (hne:g≠g') (i:Nat) (x:Value):Rw (W.setCell ⟨g',i,none⟩ x) base g c l :=
 Kd.R_far (p:=⟨g',i,none⟩) h (fun k hk=>by rw [hk];exact hne) x
theorem Rw.drewN {W:World} {base g c:Nat} {l:List Int} (h:Rw W base g c l) (m:Nat):Rw (W.drewN m) base g c l:=Kd.R_drewN h m
theorem Rw.base {W:World} {base g c:Nat} {l:List Int} (h:Rw W base g c l):base≤g:=by
 obtain ⟨_,inner,ho,_⟩:=h
 exact own_base ho g rfl
theorem Rw.of {W:World} {base g c:Nat} {ok:Nat→Prop} {l:List Int} (h:Kd.R (Kd.int .u32) 95 W base ok (.slice (some ⟨g,0,none⟩) l.length c) l):Rw W base g c l:=by
 obtain ⟨h0,inner,hown,hr⟩:=h
 refine ⟨fun k hk=>?_,inner,hown,hr.imp_ (fun _ _ hm=>hm)⟩
 have:g = k:=by simpa [Value.ownBlock] using hk
 exact this.symm
theorem ne_own {g g' n c:Nat} (h:some g≠(Value.slice (some ⟨g',0,none⟩) n c).ownBlock):g≠g':=fun e=>h (by rw [e];rfl)
structure DW (base:Nat) (w W:World) (gu cu gv cv gq cq:Nat) (u v q:List Int):Prop where
 ru:Rw W base gu cu u
 rv:Rw W base gv cv v
 rq:Rw W base gq cq q
 uv:gu≠gv
 uq:gu≠gq
 vq:gv≠gq
 below:Below base w W
 rest:∀ k,k≠gu→k≠gq→k < w.heap.size→W.heap[k]? = w.heap[k]?
theorem DW.drewN {base:Nat} {w W:World} {gu cu gv cv gq cq:Nat} {u v q:List Int} (h:DW base w W gu cu gv cv gq cq u v q) (m:Nat):DW base w (W.drewN m) gu cu gv cv gq cq u v q :=
 ⟨h.ru.drewN m,h.rv.drewN m,h.rq.drewN m,h.uv,h.uq,h.vq,pw_below_drewN h.below m,h.rest⟩
theorem DW.setU {base:Nat} {w W:World} {gu cu gv cv gq cq:Nat} {u v q:List Int} (h:DW base w W gu cu gv cv gq cq u v q) (i:Nat) (x:Int):DW base w (W.setCell ⟨gu,i,none⟩ (.int .u32 x)) gu cu gv cv gq cq (u.set i x) v q :=
 ⟨h.ru.put i x,h.rv.far h.uv.symm i _,h.rq.far h.uq.symm i _,h.uv,h.uq,h.vq,h.below.setCell (p:=⟨gu,i,none⟩) h.ru.base _,fun k h1 h2 h3=>(Below.heap_setCell _ _ _ k h1).trans (h.rest k h1 h2 h3)⟩
theorem DW.setQ {base:Nat} {w W:World} {gu cu gv cv gq cq:Nat} {u v q:List Int} (h:DW base w W gu cu gv cv gq cq u v q) (i:Nat) (x:Int):DW base w (W.setCell ⟨gq,i,none⟩ (.int .u32 x)) gu cu gv cv gq cq u v (q.set i x) :=
 ⟨h.ru.far h.uq i _,h.rv.far h.vq i _,h.rq.put i x,h.uv,h.uq,h.vq,h.below.setCell (p:=⟨gq,i,none⟩) h.rq.base _,fun k h1 h2 h3=>(Below.heap_setCell _ _ _ k h2).trans (h.rest k h1 h2 h3)⟩
structure SN (g x c y b p c' d0 e:Int):Prop where
 wg:wrap64 g = g
 wx:wrap64 x = x
 wgx:wrap64 (g * x) = g * x
 hp:g * x + c = p
 wp:wrap64 p = p
 qp:Int.tdiv p 1000000000 = c'
 rp:Int.tmod p 1000000000 = d0
 qp':p / 1000000000 = c'
 rp':p % 1000000000 = d0
 wc:wrap64 c' = c'
 wy:wrap64 y = y
 wd:wrap64 (y - d0) = y - d0
 he:y - d0 - b = e
 we:wrap64 e = e
 wB:wrap64 (e + 1000000000) = e + 1000000000
 c0:0≤c'
 c1:c'≤1000000000
 e0:-1000000000≤e
 e1:e < 1000000000
 eq:e + 1000000000 * (-c') = y - c - b - g * x
theorem sn (g x c y b:Int) (hg:0≤g) (hg2:g≤1000000000) (hx:0≤x) (hx2:x < 1000000000) (hc:0≤c) (hc2:c≤1000000000) (hy:0≤y) (hy2:y < 1000000000) (hb:b = 0 ∨ b = 1):∃ p c' d0 e,SN g x c y b p c' d0 e:=by
 have h1:=Int.mul_nonneg hg hx
 have h2:g * x≤1000000000 * 999999999:=Int.mul_le_mul hg2 (by omega) hx (by decide)
 refine ⟨g * x + c,(g * x + c) / 1000000000,(g * x + c) % 1000000000,y - (g * x + c) % 1000000000 - b,?_⟩
 exact ⟨w64 (by omega) (by omega),w64 (by omega) (by omega),w64 (by omega) (by omega),rfl,w64 (by omega) (by omega),Int.tdiv_eq_ediv_of_nonneg (by omega),Int.tmod_eq_emod_of_nonneg (by omega),rfl,rfl,w64 (by omega) (by omega),w64 (by omega) (by omega),w64 (by omega) (by omega),rfl,w64 (by omega) (by omega),w64 (by omega) (by omega),by omega,by omega,by omega,by omega,by omega⟩
structure SubI (u v u':List Int) (j i:Nat) (g c b:Int):Prop where
 run:Run u u' (j + i) (-(g * val (v.take i) * B ^ j)) (-(c + b))
 c0:0≤c
 c1:c≤1000000000
 bb:b = 0 ∨ b = 1
theorem SubI.start {u v:List Int} (hu:Wd u) (j:Nat) (g:Int):SubI u v u j 0 g 0 0:=by
 refine ⟨?_,by omega,by omega,.inl rfl⟩
 rw [List.take_zero,Nat.add_zero]
 have:=Run.start hu j
 simpa [val] using this
theorem sub_ring (g x a P Q:Int):-(g * a * P) + Q * P * -(g * x) = -(g * (a + Q * x) * P):=by grind
theorem SubI.step {u v u':List Int} {j i:Nat} {g c b p c' d0 e:Int} (h:SubI u v u' j i g c b) (hi:j + i < u.length) (hv:Wd v) (N:SN g (v.getD i 0) c (u'.getD (j + i) 0) b p c' d0 e) (d b':Int) (hd:(e < 0→d = e + 1000000000∧b' = 1)∧(0≤e→d = e∧b' = 0)) :
  SubI u v (u'.set (j + i) d) j (i + 1) g c' b':=by
 have heq:=N.eq
 have hget:=h.run.get
 have e0:=N.e0
 have e1:=N.e1
 have hdb:0≤d∧d < B∧(b' = 0 ∨ b' = 1)∧d + B * (-(c' + b')) = u.getD (j + i) 0 + -(c + b) + -(g * v.getD i 0):=by
  rw [BB,← hget]
  by_cases hn:e < 0
  ·obtain ⟨rfl,rfl⟩:=hd.1 hn
   exact ⟨by omega,by omega,.inr rfl,by omega⟩
  ·obtain ⟨rfl,rfl⟩:=hd.2 (by omega)
   exact ⟨by omega,by omega,.inl rfl,by omega⟩
 have hs:=h.run.step hi ⟨hdb.1,hdb.2.1⟩ hdb.2.2.2
 refine ⟨?_,N.c0,N.c1,hdb.2.2.1⟩
 have hr:-(g * val (v.take i) * B ^ j) + B ^ (j + i) * -(g * v.getD i 0) = -(g * val (v.take (i + 1)) * B ^ j):=by
  rw [val_take_more,Nat.add_comm j i,Bpow_add]
  exact sub_ring _ _ _ _ _
 rw [hr] at hs
 exact hs
theorem sub_open {u v u':List Int} {j i n:Nat} {g c b x y:Int} (hv:Wd v) (h:SubI u v u' j i g c b) (hg:0≤g) (hg2:g≤1000000000) (hx:v.getD i 0 = x) (hy:u'.getD n 0 = y):∃ p c' d0 e,SN g x c y b p c' d0 e:=by
 have h1:=hv.getD i
 have h2:=h.run.wd.getD n
 rw [BB,hx] at h1
 rw [BB,hy] at h2
 exact sn g x c y b hg hg2 h1.1 h1.2 h.c0 h.c1 h2.1 h2.2 h.bb
theorem sub_idx {i j n l:Nat} (hn:n = j + i) (h:n < l) (hl:l < 1099511627776):wrap64 ((i:Int) + (j:Int)) = (n:Int):=w64n (by omega) (by omega)
theorem sub_next {i j k l:Nat} (h:i < k) (hj:j + k < l) (hl:l < 1099511627776):wrap64 ((i:Int) + 1) = ((i + 1:Nat):Int):=w64n (by omega) (by omega)
theorem sub_m1 {g x c y b p c' d0 e:Int} (N:SN g x c y b p c' d0 e) (he:e < 0):(e + 1000000000) % 4294967296 = e + 1000000000:=by
 have:=N.e0
 exact Int.emod_eq_of_lt (by omega) (by omega)
theorem sub_m2 {g x c y b p c' d0 e:Int} (N:SN g x c y b p c' d0 e) (he:¬ e < 0):e % 4294967296 = e:=by
 have:=N.e1
 exact Int.emod_eq_of_lt (by omega) (by omega)
theorem sub_meas {i k:Nat} (h:i < k):k - (intOf (.int .i64 ((i + 1:Nat):Int))).toNat < k - (intOf (.int .i64 (i:Int))).toNat:=by
 simp [intOf]
 omega
structure AN (up y x s up' d:Int):Prop where
 wy:IntKind.u64.wrap y = y
 wx:IntKind.u64.wrap x = x
 wyx:IntKind.u64.wrap (y + x) = y + x
 hs:up + (y + x) = s
 ws:IntKind.u64.wrap s = s
 qs:Int.tdiv s 1000000000 = up'
 rs:Int.tmod s 1000000000 = d
 qs':s / 1000000000 = up'
 rs':s % 1000000000 = d
 wq:IntKind.u64.wrap up' = up'
 wr:IntKind.u64.wrap d = d
 wd:d % 4294967296 = d
 u0:0≤up'
 u1:up'≤2
 d0:0≤d
 d1:d < 1000000000
 eq:d + 1000000000 * up' = y + up + x
theorem an (up y x:Int) (hu:0≤up) (hu2:up≤2) (hy:0≤y) (hy2:y < 1000000000) (hx:0≤x) (hx2:x < 1000000000):∃ s up' d,AN up y x s up' d:=by
 refine ⟨up + (y + x),(up + (y + x)) / 1000000000,(up + (y + x)) % 1000000000,?_⟩
 exact ⟨u64w (by omega) (by omega),u64w (by omega) (by omega),u64w (by omega) (by omega),rfl,u64w (by omega) (by omega),Int.tdiv_eq_ediv_of_nonneg (by omega),Int.tmod_eq_emod_of_nonneg (by omega),rfl,rfl,u64w (by omega) (by omega),u64w (by omega) (by omega),Int.emod_eq_of_lt (by omega) (by omega),by omega,by omega,by omega,by omega,by omega⟩
structure AddI (u v u':List Int) (j i:Nat) (up:Int):Prop where
 run:Run u u' (j + i) (val (v.take i) * B ^ j) up
 c0:0≤up
 c1:up≤2
theorem add_open {u v u':List Int} {j i n:Nat} {up x y:Int} (hv:Wd v) (h:AddI u v u' j i up) (hx:v.getD i 0 = x) (hy:u'.getD n 0 = y):∃ s up' d,AN up y x s up' d:=by
 have h1:=hv.getD i
 have h2:=h.run.wd.getD n
 rw [BB,hx] at h1
 rw [BB,hy] at h2
 exact an up y x h.c0 h.c1 h2.1 h2.2 h1.1 h1.2
theorem AddI.start {u v:List Int} (hu:Wd u) (j:Nat):AddI u v u j 0 0:=by
 refine ⟨?_,by omega,by omega⟩
 rw [List.take_zero,Nat.add_zero]
 have:=Run.start hu j
 simpa [val] using this
theorem add_ring (x a P Q:Int):a * P + Q * P * x = (a + Q * x) * P:=by grind
theorem AddI.step {u v u':List Int} {j i:Nat} {up s up' d:Int} (h:AddI u v u' j i up) (hi:j + i < u.length) (N:AN up (u'.getD (j + i) 0) (v.getD i 0) s up' d):AddI u v (u'.set (j + i) d) j (i + 1) up':=by
 have hget:=h.run.get
 have heq:=N.eq
 have hs:=h.run.step hi ⟨N.d0,by rw [BB];exact N.d1⟩ (show d + B * up' = u.getD (j + i) 0 + up + v.getD i 0 by rw [BB,← hget];omega)
 refine ⟨?_,N.u0,N.u1⟩
 have hr:val (v.take i) * B ^ j + B ^ (j + i) * v.getD i 0 = val (v.take (i + 1)) * B ^ j:=by
  rw [val_take_more,Nat.add_comm j i,Bpow_add]
  exact add_ring _ _ _ _
 rw [hr] at hs
 exact hs
end Go.Proofs.YtaknchlegjcdhaaGreatDoor.Pr
namespace Go.Proofs.YtaknchlegjcdhaaGreatDoor.Pr
set_option linter.unusedVariables false
set_option linter.unusedSimpArgs false
open Go.RowKit Go.Proofs.YtaknchlegjcdhaaGreatDoor.NatTh Go.Proofs.YtaknchlegjcdhaaGreatDoorW.PrintWords Go.Proofs.YtaknchlegjcdhaaGreatDoorW.PrintLast Go.Proofs.YtaknchlegjcdhaaGreatDoorW.PrintMore
set_option maxRecDepth 1000000 in
set_option maxHeartbeats 4000000 in
theorem sub_loop (K:Act→World→Prop) (Q0:Exit→Act→World→Prop) (base:Nat) (w0 w:World) (gu cu gv cv gq cq j:Nat) (u v q:List Int) (g:Int) (u0 u1 u2 u3 u4 u5 u6 u7 u8 u9 u10 u14 u16 u18 u21 u22 u23 u24 u25 u26 u27 u28 u29 u30 u31 u32 u33 u34 u35 u36 u37 u38 u39 u40 u41 u42 u43 u44 u45 u46 u47 u48 u49 u50 u51 u52 u53 u54 u55 u56 u57 u58 u59 u60 u61 u62 u63 u64 u65 u66 u67 u68 u69 u70 u71 u72 u73 u74 u75 u76 u77 u78 u79 u80 u81 u82 u83 u84 u85 u86 u87 u88 u89 u90 u91 u92 u93 u94 u95 u96 u97 u98 u99 u100 u101 u102 u103 u104 u105 u106 u107 u108 u109 u110 u111 u112 u113 u114 u115 u116 u117 u118 u119 u120 u121 u122 u123 u124 u125 u126 u127 u128 u129 u130 u131 u132 u133 u134 u135 u136 u137 u138 u139 u140 u141 u142 u143 u144 u145 u146 u147 u148 u149 u150 u151 u152 u153 u154 u155 u156 u157 u158 u159 u160 u161 u162 u163 u164 u165 u166 u167 u168 u169 u170 u171 u172 u173 u174 u175 u176 u177 u178 u179 u182 u183 u184 u185 u186 u187 u188 u189 u190 u191 u192 u193 u194 u195 u196 u197 u198 u199 u200 u201 u202 u203 u204 u205 u206 u207 u208 u209 u210 u211 u212 u213 u214 u215 u216 u217 u218 u219 u220 u221 u222 u223 u224 u225 u226 u227 u228 u229 u230 u231 u232 u233 u234 u235 u236 u237 u238 u239 u240 u241 u242 u243 u244 u245 u246 u247 u248 u249 u250 u251 u252 u253 u254 u255 u256 u257 u258 u259 u260 u261 u262 u263 u264 u265 u266 u267 u268 u269 u270 u271 u272 u273 u274 u275 u276 u277 u278 u279 u280 u281 u282 u283 u284 u285 u286 u287 u288 u289 u290 u291 u292 u293 u294 u295 u296 u297 u298:Value)
  (hu:Wd u) (hv:Wd v) (hj:j + v.length < u.length) (hs:u.length < 1099511627776) (hg:0≤g) (hg2:g≤1000000000)
  (hD:DW base w0 w gu cu gv cv gq cq u v q)
  (hK:∀ (W:World) (u':List Int) (c b:Int) (y21 y22 y23 y181 y182 y183 y184 y185 y186 y187 y188 y189 y190 y191 y192 y193 y194 y195 y196 y197 y198 y199 y200 y201 y202 y203 y204 y205 y206 y207 y208 y209 y210 y211 y212 y213 y214 y215 y216 y217 y218 y219:Value),DW base w0 W gu cu gv cv gq cq u' v q→SubI u v u' j v.length g c b→K ⟨#[u0,u1,u2,u3,u4,u5,u6,u7,u8,u9,u10,.slice (some ⟨gu,0,none⟩) u.length cu,.slice (some ⟨gv,0,none⟩) v.length cv,.int .i64 v.length,u14,.int .i64 j,u16,.int .u64 g,u18,.int .i64 c,.int .i64 b,y21,y22,y23,u24,u25,u26,u27,u28,u29,u30,u31,u32,u33,u34,u35,u36,u37,u38,u39,u40,u41,u42,u43,u44,u45,u46,u47,u48,u49,u50,u51,u52,u53,u54,u55,u56,u57,u58,u59,u60,u61,u62,u63,u64,u65,u66,u67,u68,u69,u70,u71,u72,u73,u74,u75,u76,u77,u78,u79,u80,u81,u82,u83,u84,u85,u86,u87,u88,u89,u90,u91,u92,u93,u94,u95,u96,u97,u98,u99,u100,u101,u102,u103,u104,u105,u106,u107,u108,u109,u110,u111,u112,u113,u114,u115,u116,u117,u118,u119,u120,u121,u122,u123,u124,u125,u126,u127,u128,u129,u130,u131,u132,u133,u134,u135,u136,u137,u138,u139,u140,u141,u142,u143,u144,u145,u146,u147,u148,u149,u150,u151,u152,u153,u154,u155,u156,u157,u158,u159,u160,u161,u162,u163,u164,u165,u166,u167,u168,u169,u170,u171,u172,u173,u174,u175,u176,u177,u178,u179,.int .i64 v.length,y181,y182,y183,y184,y185,y186,y187,y188,y189,y190,y191,y192,y193,y194,y195,y196,y197,y198,y199,y200,y201,y202,y203,y204,y205,y206,y207,y208,y209,y210,y211,y212,y213,y214,y215,y216,y217,y218,y219,u220,u221,u222,u223,u224,u225,u226,u227,u228,u229,u230,u231,u232,u233,u234,u235,u236,u237,u238,u239,u240,u241,u242,u243,u244,u245,u246,u247,u248,u249,u250,u251,u252,u253,u254,u255,u256,u257,u258,u259,u260,u261,u262,u263,u264,u265,u266,u267,u268,u269,u270,u271,u272,u273,u274,u275,u276,u277,u278,u279,u280,u281,u282,u283,u284,u285,u286,u287,u288,u289,u290,u291,u292,u293,u294,u295,u296,u297,u298],[]⟩ W) :
  Code.wp Tryz.prog (blkIn 5) (Exit.inBlock 5 (Exit.then K Q0)) ⟨#[u0,u1,u2,u3,u4,u5,u6,u7,u8,u9,u10,.slice (some ⟨gu,0,none⟩) u.length cu,.slice (some ⟨gv,0,none⟩) v.length cv,.int .i64 v.length,u14,.int .i64 j,u16,.int .u64 g,u18,.int .i64 0,.int .i64 0,u21,u22,u23,u24,u25,u26,u27,u28,u29,u30,u31,u32,u33,u34,u35,u36,u37,u38,u39,u40,u41,u42,u43,u44,u45,u46,u47,u48,u49,u50,u51,u52,u53,u54,u55,u56,u57,u58,u59,u60,u61,u62,u63,u64,u65,u66,u67,u68,u69,u70,u71,u72,u73,u74,u75,u76,u77,u78,u79,u80,u81,u82,u83,u84,u85,u86,u87,u88,u89,u90,u91,u92,u93,u94,u95,u96,u97,u98,u99,u100,u101,u102,u103,u104,u105,u106,u107,u108,u109,u110,u111,u112,u113,u114,u115,u116,u117,u118,u119,u120,u121,u122,u123,u124,u125,u126,u127,u128,u129,u130,u131,u132,u133,u134,u135,u136,u137,u138,u139,u140,u141,u142,u143,u144,u145,u146,u147,u148,u149,u150,u151,u152,u153,u154,u155,u156,u157,u158,u159,u160,u161,u162,u163,u164,u165,u166,u167,u168,u169,u170,u171,u172,u173,u174,u175,u176,u177,u178,u179,.int .i64 v.length,.int .i64 0,u182,u183,u184,u185,u186,u187,u188,u189,u190,u191,u192,u193,u194,u195,u196,u197,u198,u199,u200,u201,u202,u203,u204,u205,u206,u207,u208,u209,u210,u211,u212,u213,u214,u215,u216,u217,u218,u219,u220,u221,u222,u223,u224,u225,u226,u227,u228,u229,u230,u231,u232,u233,u234,u235,u236,u237,u238,u239,u240,u241,u242,u243,u244,u245,u246,u247,u248,u249,u250,u251,u252,u253,u254,u255,u256,u257,u258,u259,u260,u261,u262,u263,u264,u265,u266,u267,u268,u269,u270,u271,u272,u273,u274,u275,u276,u277,u278,u279,u280,u281,u282,u283,u284,u285,u286,u287,u288,u289,u290,u291,u292,u293,u294,u295,u296,u297,u298],[]⟩ w:=by
 conv=>arg 2;whnf
 have HU:=Aside0.mk hu
 have HV:=Aside0.mk hv
 have HKK:=Aside0.mk hK
 have HD:=Aside0.mk hD
 have HJ:=Aside0.mk hj
 have HS:=Aside0.mk hs
 have HG1:=Aside0.mk hg
 have HG2:=Aside0.mk hg2
 clear hu hv hK hD hj hs hg hg2
 go_wp2
 go_loopw [19,20,181] (fun a0 a1 a2 wr=>∃ (i:Nat) (c b:Int) (u':List Int),a0 = .int .i64 c∧a1 = .int .i64 b∧a2 = .int .i64 i∧Aside0 (i≤v.length)∧Aside0 (SubI u v u' j i g c b)∧Aside0 (DW base w0 wr gu cu gv cv gq cq u' v q)) (fun _ _ a2 _=>v.length - (intOf a2).toNat)
 case atStart=>exact ⟨0,0,0,u,rfl,rfl,rfl,⟨Nat.zero_le _⟩,⟨SubI.start HU.out j g⟩,HD⟩
 case round =>
  clear HD
  obtain ⟨i,c,b,u',rfl,rfl,rfl,HI,HR,HD⟩:=hrel
  obtain ⟨n,hn⟩:∃ n:Nat,n = j + i:=⟨_,rfl⟩
  have hlen:u'.length = u.length:=HR.out.run.len
  by_cases hlt:i < v.length
  ·obtain ⟨x,hx⟩:∃ x,v.getD i 0 = x:=⟨_,rfl⟩
   obtain ⟨y,hy⟩:∃ y,u'.getD n 0 = y:=⟨_,rfl⟩
   obtain ⟨p,c',d0,e,N⟩:∃ p c' d0 e,SN g x c y b p c' d0 e:=sub_open HV.out HR.out HG1.out HG2.out hx hy
   have hnl:n < u.length:=by rw [hn];exact Nat.lt_of_lt_of_le (Nat.add_lt_add_left hlt j) (Nat.le_of_lt HJ.out)
   have hnl2:n < u'.length:=by rw [hlen];exact hnl
   have cx:wr.cell? ⟨gv,i,none⟩ = some (.int .u32 x):=by rw [← hx];exact (HD.out.rv.cell i hlt).1
   have cy:wr.cell? ⟨gu,n,none⟩ = some (.int .u32 y):=by rw [← hy];exact (HD.out.ru.cell n hnl2).1
   have fy:wr.frozen? ⟨gu,n,none⟩ = false:=(HD.out.ru.cell n hnl2).2
   have hst:∀ d b',((e < 0→d = e + 1000000000∧b' = 1)∧(0≤e→d = e∧b' = 0))→SubI u v (u'.set n d) j (i + 1) g c' b':=by
    rw [← hx,← hy,hn] at N
    rw [hn]
    exact fun d b'=>HR.out.step (by rw [← hn];exact hnl) HV.out N d b'
   have HST:=Aside0.mk hst
   have e1:=N.wg
   have e2:=N.wx
   have e3:=N.wgx
   have e4:=N.hp
   have e5:=N.wp
   have e6:=N.qp
   have e7:=N.rp
   have e8:=N.qp'
   have e9:=N.rp'
   have f1:=N.wc
   have f2:=N.wy
   have f3:=N.wd
   have f4:=N.he
   have f5:=N.we
   have f6:=N.wB
   have f7:wrap64 ((i:Int) + (j:Int)) = (n:Int):=sub_idx hn hnl HS.out
   have f8:wrap64 ((i:Int) + 1) = ((i + 1:Nat):Int):=sub_next hlt HJ.out HS.out
   have HN:=Aside0.mk N
   have HX:=Aside0.mk hx
   have HY:=Aside0.mk hy
   have HNN:=Aside0.mk hn
   have HL:=Aside0.mk hlen
   clear hst N hx hy hn hlen hnl2
   by_cases he:e < 0
   ·have hd:decide (e < 0) = true:=decide_eq_true he
    have hm:(e + 1000000000) % 4294967296 = e + 1000000000:=sub_m1 HN.out he
    go_wp2
    go_roundw
    case rel=>exact ⟨i + 1,c',1,u'.set n (e + 1000000000),(by first|rfl|exact congrArg _ f1),rfl,(by first|rfl|exact congrArg _ f8),⟨hlt⟩,⟨HST.out _ _ ⟨fun _=>⟨rfl,rfl⟩,fun h=>absurd he (Int.not_lt.2 h)⟩⟩,⟨HD.out.setU n _⟩⟩
    case measure=>first|exact sub_meas hlt|(rw [f8];exact sub_meas hlt)
   ·have hd:decide (e < 0) = false:=decide_eq_false he
    have hm:e % 4294967296 = e:=sub_m2 HN.out he
    go_wp2
    go_roundw
    case rel=>exact ⟨i + 1,c',0,u'.set n e,(by first|rfl|exact congrArg _ f1),rfl,(by first|rfl|exact congrArg _ f8),⟨hlt⟩,⟨HST.out _ _ ⟨fun h=>absurd h he,fun _=>⟨rfl,rfl⟩⟩⟩,⟨HD.out.setU n _⟩⟩
    case measure=>first|exact sub_meas hlt|(rw [f8];exact sub_meas hlt)
  ·have hie:i = v.length:=Nat.le_antisymm HI.out (Nat.not_lt.1 hlt)
   subst hie
   clear hlen hn
   go_wp2
   exact HKK.out _ u' c b _ _ _ _ _ _ _ _ _ _ _ _ _ _ _ _ _ _ _ _ _ _ _ _ _ _ _ _ _ _ _ _ _ _ _ _ _ _ _ _ _ _ HD.out HR.out
end Go.Proofs.YtaknchlegjcdhaaGreatDoor.Pr
namespace Go.Proofs.YtaknchlegjcdhaaGreatDoor.Pr
set_option linter.unusedVariables false
set_option linter.unusedSimpArgs false
open Go.RowKit Go.Proofs.YtaknchlegjcdhaaGreatDoor.NatTh Go.Proofs.YtaknchlegjcdhaaGreatDoorW.PrintWords Go.Proofs.YtaknchlegjcdhaaGreatDoorW.PrintLast Go.Proofs.YtaknchlegjcdhaaGreatDoorW.PrintMore
set_option maxRecDepth 1000000 in
set_option maxHeartbeats 4000000 in
theorem add_loop (K:Act→World→Prop) (Q0:Exit→Act→World→Prop) (base:Nat) (w0 w:World) (gu cu gv cv gq cq j lu:Nat) (u v q:List Int) (u0 u1 u2 u3 u4 u5 u6 u7 u8 u9 u10 u14 u16 u17 u18 u19 u20 u21 u22 u23 u24 u26 u27 u28 u29 u30 u31 u32 u33 u34 u35 u36 u37 u38 u39 u40 u41 u42 u43 u44 u45 u46 u47 u48 u49 u50 u51 u52 u53 u54 u55 u56 u57 u58 u59 u60 u61 u62 u63 u64 u65 u66 u67 u68 u69 u70 u71 u72 u73 u74 u75 u76 u77 u78 u79 u80 u81 u82 u83 u84 u85 u86 u87 u88 u89 u90 u91 u92 u93 u94 u95 u96 u97 u98 u99 u100 u101 u102 u103 u104 u105 u106 u107 u108 u109 u110 u111 u112 u113 u114 u115 u116 u117 u118 u119 u120 u121 u122 u123 u124 u125 u126 u127 u128 u129 u130 u131 u132 u133 u134 u135 u136 u137 u138 u139 u140 u141 u142 u143 u144 u145 u146 u147 u148 u149 u150 u151 u152 u153 u154 u155 u156 u157 u158 u159 u160 u161 u162 u163 u164 u165 u166 u167 u168 u169 u170 u171 u172 u173 u174 u175 u176 u177 u178 u179 u180 u181 u182 u183 u184 u185 u186 u187 u188 u189 u190 u191 u192 u193 u194 u195 u196 u197 u198 u199 u200 u201 u202 u203 u204 u205 u206 u207 u208 u209 u210 u211 u212 u213 u214 u215 u216 u217 u218 u219 u220 u221 u222 u223 u224 u225 u226 u227 u228 u229 u230 u231 u232 u233 u234 u237 u238 u239 u240 u241 u242 u243 u244 u245 u246 u247 u248 u249 u250 u251 u252 u253 u254 u255 u256 u257 u258 u259 u260 u261 u262 u263 u264 u265 u266 u267 u268 u269 u270 u271 u272 u273 u274 u275 u276 u277 u278 u279 u280 u281 u282 u283 u284 u285 u286 u287 u288 u289 u290 u291 u292 u293 u294 u295 u296 u297 u298:Value) (hlu:u.length = lu)
  (hu:Wd u) (hv:Wd v) (hj:j + v.length < u.length) (hs:u.length < 1099511627776)
  (hD:DW base w0 w gu cu gv cv gq cq u v q)
  (hK:∀ (W:World) (u':List Int) (up:Int) (y26 y236 y237 y238 y239 y240 y241 y242 y243 y244 y245 y246 y247 y248 y249 y250 y251 y252 y253 y254 y255 y256 y257 y258 y259 y260 y261 y262 y263 y264:Value),DW base w0 W gu cu gv cv gq cq u' v q→AddI u v u' j v.length up→K ⟨#[u0,u1,u2,u3,u4,u5,u6,u7,u8,u9,u10,.slice (some ⟨gu,0,none⟩) lu cu,.slice (some ⟨gv,0,none⟩) v.length cv,.int .i64 v.length,u14,.int .i64 j,u16,u17,u18,u19,u20,u21,u22,u23,u24,.int .u64 up,y26,u27,u28,u29,u30,u31,u32,u33,u34,u35,u36,u37,u38,u39,u40,u41,u42,u43,u44,u45,u46,u47,u48,u49,u50,u51,u52,u53,u54,u55,u56,u57,u58,u59,u60,u61,u62,u63,u64,u65,u66,u67,u68,u69,u70,u71,u72,u73,u74,u75,u76,u77,u78,u79,u80,u81,u82,u83,u84,u85,u86,u87,u88,u89,u90,u91,u92,u93,u94,u95,u96,u97,u98,u99,u100,u101,u102,u103,u104,u105,u106,u107,u108,u109,u110,u111,u112,u113,u114,u115,u116,u117,u118,u119,u120,u121,u122,u123,u124,u125,u126,u127,u128,u129,u130,u131,u132,u133,u134,u135,u136,u137,u138,u139,u140,u141,u142,u143,u144,u145,u146,u147,u148,u149,u150,u151,u152,u153,u154,u155,u156,u157,u158,u159,u160,u161,u162,u163,u164,u165,u166,u167,u168,u169,u170,u171,u172,u173,u174,u175,u176,u177,u178,u179,u180,u181,u182,u183,u184,u185,u186,u187,u188,u189,u190,u191,u192,u193,u194,u195,u196,u197,u198,u199,u200,u201,u202,u203,u204,u205,u206,u207,u208,u209,u210,u211,u212,u213,u214,u215,u216,u217,u218,u219,u220,u221,u222,u223,u224,u225,u226,u227,u228,u229,u230,u231,u232,u233,u234,.int .i64 v.length,y236,y237,y238,y239,y240,y241,y242,y243,y244,y245,y246,y247,y248,y249,y250,y251,y252,y253,y254,y255,y256,y257,y258,y259,y260,y261,y262,y263,y264,u265,u266,u267,u268,u269,u270,u271,u272,u273,u274,u275,u276,u277,u278,u279,u280,u281,u282,u283,u284,u285,u286,u287,u288,u289,u290,u291,u292,u293,u294,u295,u296,u297,u298],[]⟩ W) :
  Code.wp Tryz.prog (blkIn 7) (Exit.inBlock 7 (Exit.then K Q0)) ⟨#[u0,u1,u2,u3,u4,u5,u6,u7,u8,u9,u10,.slice (some ⟨gu,0,none⟩) lu cu,.slice (some ⟨gv,0,none⟩) v.length cv,.int .i64 v.length,u14,.int .i64 j,u16,u17,u18,u19,u20,u21,u22,u23,u24,.int .u64 0,u26,u27,u28,u29,u30,u31,u32,u33,u34,u35,u36,u37,u38,u39,u40,u41,u42,u43,u44,u45,u46,u47,u48,u49,u50,u51,u52,u53,u54,u55,u56,u57,u58,u59,u60,u61,u62,u63,u64,u65,u66,u67,u68,u69,u70,u71,u72,u73,u74,u75,u76,u77,u78,u79,u80,u81,u82,u83,u84,u85,u86,u87,u88,u89,u90,u91,u92,u93,u94,u95,u96,u97,u98,u99,u100,u101,u102,u103,u104,u105,u106,u107,u108,u109,u110,u111,u112,u113,u114,u115,u116,u117,u118,u119,u120,u121,u122,u123,u124,u125,u126,u127,u128,u129,u130,u131,u132,u133,u134,u135,u136,u137,u138,u139,u140,u141,u142,u143,u144,u145,u146,u147,u148,u149,u150,u151,u152,u153,u154,u155,u156,u157,u158,u159,u160,u161,u162,u163,u164,u165,u166,u167,u168,u169,u170,u171,u172,u173,u174,u175,u176,u177,u178,u179,u180,u181,u182,u183,u184,u185,u186,u187,u188,u189,u190,u191,u192,u193,u194,u195,u196,u197,u198,u199,u200,u201,u202,u203,u204,u205,u206,u207,u208,u209,u210,u211,u212,u213,u214,u215,u216,u217,u218,u219,u220,u221,u222,u223,u224,u225,u226,u227,u228,u229,u230,u231,u232,u233,u234,.int .i64 v.length,.int .i64 0,u237,u238,u239,u240,u241,u242,u243,u244,u245,u246,u247,u248,u249,u250,u251,u252,u253,u254,u255,u256,u257,u258,u259,u260,u261,u262,u263,u264,u265,u266,u267,u268,u269,u270,u271,u272,u273,u274,u275,u276,u277,u278,u279,u280,u281,u282,u283,u284,u285,u286,u287,u288,u289,u290,u291,u292,u293,u294,u295,u296,u297,u298],[]⟩ w:=by
 subst hlu
 conv=>arg 2;whnf
 have HU:=Aside0.mk hu
 have HV:=Aside0.mk hv
 have HKK:=Aside0.mk hK
 have HD:=Aside0.mk hD
 have HJ:=Aside0.mk hj
 have HS:=Aside0.mk hs
 clear hu hv hK hD hj hs
 go_wp2
 go_loopw [25,236] (fun a0 a2 wr=>∃ (i:Nat) (up:Int) (u':List Int),a0 = .int .u64 up∧a2 = .int .i64 i∧Aside0 (i≤v.length)∧Aside0 (AddI u v u' j i up)∧Aside0 (DW base w0 wr gu cu gv cv gq cq u' v q)) (fun _ a2 _=>v.length - (intOf a2).toNat)
 case atStart=>exact ⟨0,0,u,rfl,rfl,⟨Nat.zero_le _⟩,⟨AddI.start HU.out j⟩,HD⟩
 case round =>
  clear HD
  obtain ⟨i,up,u',rfl,rfl,HI,HR,HD⟩:=hrel
  obtain ⟨n,hn⟩:∃ n:Nat,n = j + i:=⟨_,rfl⟩
  have hlen:u'.length = u.length:=HR.out.run.len
  by_cases hlt:i < v.length
  ·obtain ⟨x,hx⟩:∃ x,v.getD i 0 = x:=⟨_,rfl⟩
   obtain ⟨y,hy⟩:∃ y,u'.getD n 0 = y:=⟨_,rfl⟩
   obtain ⟨s,up',d,N⟩:∃ s up' d,AN up y x s up' d:=add_open HV.out HR.out hx hy
   have hnl:n < u.length:=by rw [hn];exact Nat.lt_of_lt_of_le (Nat.add_lt_add_left hlt j) (Nat.le_of_lt HJ.out)
   have hnl2:n < u'.length:=by rw [hlen];exact hnl
   have cx:wr.cell? ⟨gv,i,none⟩ = some (.int .u32 x):=by rw [← hx];exact (HD.out.rv.cell i hlt).1
   have cy:wr.cell? ⟨gu,n,none⟩ = some (.int .u32 y):=by rw [← hy];exact (HD.out.ru.cell n hnl2).1
   have fy:wr.frozen? ⟨gu,n,none⟩ = false:=(HD.out.ru.cell n hnl2).2
   have hst:AddI u v (u'.set n d) j (i + 1) up':=by
    rw [← hx,← hy,hn] at N
    rw [hn]
    exact HR.out.step (by rw [← hn];exact hnl) N
   have HST:=Aside0.mk hst
   have e1:=N.wy
   have e2:=N.wx
   have e3:=N.wyx
   have e4:=N.hs
   have e5:=N.ws
   have e6:=N.qs
   have e7:=N.rs
   have e8:=N.qs'
   have e9:=N.rs'
   have f1:=N.wq
   have f2:=N.wr
   have f3:=N.wd
   have f7:wrap64 ((i:Int) + (j:Int)) = (n:Int):=sub_idx hn hnl HS.out
   have f9:IntKind.i64.wrap ((i:Int) + (j:Int)) = (n:Int):=(i64_w _).trans f7
   have f8:wrap64 ((i:Int) + 1) = ((i + 1:Nat):Int):=sub_next hlt HJ.out HS.out
   have HX:=Aside0.mk hx
   have HY:=Aside0.mk hy
   have HNN:=Aside0.mk hn
   have HL:=Aside0.mk hlen
   clear hst N hx hy hn hlen hnl2
   go_wp2
   go_quiet (fail)
   go_wp2
   go_roundw
   case rel=>exact ⟨i + 1,up',u'.set n d,(by first|rfl|exact congrArg _ f1),(by first|rfl|exact congrArg _ f8),⟨hlt⟩,HST,⟨(HD.out.drewN nq).setU n _⟩⟩
   case measure=>first|exact sub_meas hlt|(rw [f8];exact sub_meas hlt)
  ·have hie:i = v.length:=Nat.le_antisymm HI.out (Nat.not_lt.1 hlt)
   subst hie
   clear hlen hn
   go_wp2
   exact HKK.out _ u' up _ _ _ _ _ _ _ _ _ _ _ _ _ _ _ _ _ _ _ _ _ _ _ _ _ _ _ _ _ _ HD.out HR.out
end Go.Proofs.YtaknchlegjcdhaaGreatDoor.Pr
namespace Go.Proofs.YtaknchlegjcdhaaGreatDoor.Pr
set_option linter.unusedVariables false
set_option linter.unusedSimpArgs false
open Go.RowKit Go.Proofs.YtaknchlegjcdhaaGreatDoor.NatTh Go.Proofs.YtaknchlegjcdhaaGreatDoorW.PrintWords Go.Proofs.YtaknchlegjcdhaaGreatDoorW.PrintLast Go.Proofs.YtaknchlegjcdhaaGreatDoorW.PrintMore
structure OutI (U0:Int) (lu:Nat) (u v q:List Int) (n:Nat):Prop where
 wu:Wd u
 wv:Wd v
 wq:Wd q
 k2:2≤v.length
 top:0 < v.getD (v.length - 1) 0
 llu:u.length = lu
 lq:q.length + v.length = lu
 nq:n≤q.length
 small:lu < 1099511627776
 eq:U0 = val u + val v * B ^ n * val (q.drop n)
 low:val u < val v * B ^ n
namespace OutI
variable {U0 : Int} {lu : Nat} {u v q : List Int} {j : Nat}
theorem place (h:OutI U0 lu u v q (j + 1)):NatTh.Place u v j:=by
 have h1:=h.nq
 have h2:=h.lq
 have h3:=h.llu
 exact ⟨h.wu,h.wv,h.k2,by omega,h.top,h.low⟩
theorem hj (h:OutI U0 lu u v q (j + 1)):j + v.length < u.length:=h.place.fit
theorem hjq (h:OutI U0 lu u v q (j + 1)):j < q.length:=h.nq
theorem hsm (h:OutI U0 lu u v q (j + 1)):u.length < 1099511627776:=by rw [h.llu];exact h.small
theorem g0 (h:OutI U0 lu u v q (j + 1)) {g:Int} (hg:g = qw u v j ∨ g = qw u v j + 1):0≤g:=by
 have:=h.place.qw_nonneg
 omega
theorem g1 (h:OutI U0 lu u v q (j + 1)) {g:Int} (hg:g = qw u v j ∨ g = qw u v j + 1):g≤1000000000:=by
 have:=h.place.qw_lt
 rw [BB] at this
 omega
theorem ring5 (V P Q D u q:Int):u + V * (B * P) * D = u - q * (V * P) + V * P * (q + B * D):=by grind
theorem next (h:OutI U0 lu u v q (j + 1)) {u':List Int} (hw:Wd u') (hl:u'.length = u.length) (hv:val u' = val u - qw u v j * (val v * B ^ j)):OutI U0 lu u' v (q.set j (qw u v j)) j:=by
 have hj:=h.hjq
 have hq0:=h.place.qw_nonneg
 have hq1:=h.place.qw_lt
 have hq2:=h.place.qw_gt
 rw [Int.add_mul,Int.one_mul] at hq2
 refine ⟨hw,h.wv,h.wq.set j ⟨hq0,hq1⟩,h.k2,h.top,by rw [hl,h.llu],by rw [List.length_set,h.lq],by rw [List.length_set];omega,h.small,?_,by omega⟩
 rw [val_drop_succ _ _ (by rw [List.length_set];exact hj),drop_set_succ,h.eq,hv,Bpow_succ,show (q.set j (qw u v j)).getD j 0 = qw u v j by simp [List.getD,hj]]
 exact ring5 _ _ 0 _ _ _
end OutI
theorem last_of {U0:Int} {lu:Nat} {u v q u':List Int} {j:Nat} (h:OutI U0 lu u v q (j + 1)) {g c b:Int} (hg:g = qw u v j ∨ g = qw u v j + 1) (S:SubI u v u' j v.length g c b) :
    ∃ (n:Nat) (y t0 t:Int),wrap64 ((j:Int) + (v.length:Int)) = (n:Int)∧n = j + v.length∧n < u.length∧n < u'.length∧u'.length = u.length∧u'.getD n 0 = y∧wrap64 y = y∧y - c = t0∧wrap64 t0 = t0∧t0 - b = t∧wrap64 t = t ∧
      ((t = 0∧g = qw u v j∧OutI U0 lu (u'.set n 0) v (q.set j g) j∧0≤g∧g < 1000000000) ∨
       (t = -1∧g = qw u v j + 1∧0≤g - 1∧g - 1 < 1000000000∧∀ u'' up,AddI u' v u'' j v.length up→up = 1∧u''.length = u.length∧OutI U0 lu (u''.set n 0) v (q.set j (g - 1)) j)):=by
  have hP:=h.place
  have hfit:=hP.fit
  have hsm:=h.hsm
  have hq0:=hP.qw_nonneg
  have hq1:=hP.qw_lt
  have hc:=S.c0
  have hc1:=S.c1
  have hb:=S.bb
  have hR:=S.run
  have hlen:=hR.len
  have hgl:u'.getD (j + v.length) 0 = u.getD (j + v.length) 0:=hR.get
  have hy:=h.wu.getD (j + v.length)
  rw [BB] at hy hq1
  rw [List.take_length,show g * val v * B ^ j = g * (val v * B ^ j) from Int.mul_assoc _ _ _] at hR
  have hd:=sub_done hP hg hR
  have hz:(0:Int)≤0∧(0:Int) < B:=⟨by decide,B_pos⟩
  refine ⟨j + v.length,_,_,_,w64n (by omega) (by omega),rfl,hfit,by omega,hlen,rfl,w64 (by rw [hgl];omega) (by rw [hgl];omega),rfl,w64 (by rw [hgl];omega) (by rw [hgl];omega),rfl,w64 (by rw [hgl];omega) (by rw [hgl];omega),?_⟩
  rcases hd with ⟨h1,h2,h3⟩|⟨h1,h2,h3⟩
  · left
    have ho:=h.next (hR.wd.set (j + v.length) hz) (by rw [List.length_set,hlen]) h3
    rw [← h2] at ho
    exact ⟨by rw [hgl];omega,h2,ho,by omega,by omega⟩
  · right
    refine ⟨by rw [hgl];omega,h2,by omega,by omega,fun u'' up A=>?_⟩
    have hA:=A.run
    rw [List.take_length] at hA
    obtain ⟨h4,h5⟩:=h3 u'' up hA
    have hl2:=hA.len
    have ho:=h.next (hA.wd.set (j + v.length) hz) (by rw [List.length_set];omega) h5
    rw [show qw u v j = g - 1 by omega] at ho
    exact ⟨h4,by omega,ho⟩
theorem out_dec {U0:Int} {lu:Nat} {u v q:List Int} {j:Nat} (h:OutI U0 lu u v q (j + 1)):wrap64 ((j:Int) - 1) = (j:Int) - 1:=by
 have h1:=h.hj
 have h2:=h.hsm
 exact w64 (by omega) (by omega)
theorem out_meas {j:Nat} {z:Int} (hz:z = (j:Int) - 1):(intOf (.int .i64 z) + 1).toNat < (intOf (.int .i64 (j:Int)) + 1).toNat:=by
 subst hz
 show ((j:Int) - 1 + 1).toNat < ((j:Int) + 1).toNat
 omega
theorem u32w {g:Int} (h0:0≤g) (h1:g < 1000000000):IntKind.u32.wrap g = g:=by
 have:g % 4294967296 = g:=Int.emod_eq_of_lt h0 (by omega)
 exact this
theorem u32m {g:Int} (h0:0≤g) (h1:g < 1000000000):g % 4294967296 = g:=Int.emod_eq_of_lt h0 (by omega)
theorem u64w' {g:Int} (h0:0≤g) (h1:g < 1000000000):IntKind.u64.wrap g = g:=u64w (by omega) (by omega)
structure TN (u v:List Int) (j b0 b1 a1:Nat) (y1 y0 x1 p s g r:Int):Prop where
 i1:wrap64 ((j:Int) + (v.length:Int)) = (b0:Int)
 i2:wrap64 ((b0:Int) - 1) = (b1:Int)
 i3:wrap64 ((v.length:Int) - 1) = (a1:Int)
 l1:b0 < u.length
 l2:b1 < u.length
 l3:a1 < v.length
 y1e:u.getD b0 0 = y1
 y0e:u.getD b1 0 = y0
 x1e:v.getD a1 0 = x1
 wy1:IntKind.u64.wrap y1 = y1
 wy0:IntKind.u64.wrap y0 = y0
 wx1:IntKind.u64.wrap x1 = x1
 hp:y1 * 1000000000 = p
 wp:IntKind.u64.wrap p = p
 hs:p + y0 = s
 ws:IntKind.u64.wrap s = s
 xn:x1≠0
 qg:Int.tdiv s x1 = g
 rg:Int.tmod s x1 = r
 qg':s / x1 = g
 rg':s % x1 = r
 wg:IntKind.u64.wrap g = g
 wr:IntKind.u64.wrap r = r
 G:Guess u v j g r
 rB:r < B
theorem tn (u v:List Int) (j:Nat) (hP:NatTh.Place u v j) (hs:u.length < 1099511627776):∃ b0 b1 a1 y1 y0 x1 p s g r,TN u v j b0 b1 a1 y1 y0 x1 p s g r:=by
 have hk2:=hP.k2
 have hfit:=hP.fit
 have v1:=hP.wv.getD (v.length - 1)
 have u1:=hP.wu.getD (j + v.length)
 have u2:=hP.wu.getD (j + v.length - 1)
 have ht:=hP.top
 have G:=Guess.start hP
 have g0:=G.g0
 have g1:=G.hi
 have r0:=G.r0
 have hr:=Int.emod_lt_of_pos (u.getD (j + v.length) 0 * B + u.getD (j + v.length - 1) 0) ht
 rw [BB] at v1 u1 u2 g0 g1 r0 hr
 have hG:=G
 rw [BB] at hG
 refine ⟨j + v.length,j + v.length - 1,v.length - 1,_,_,_,_,_,_,_,w64n (by omega) (by omega),w64n (by omega) (by omega),w64n (by omega) (by omega),hfit,by omega,by omega,rfl,rfl,rfl,u64w (by omega) (by omega),u64w (by omega) (by omega),u64w (by omega) (by omega),rfl,u64w (by omega) (by omega),rfl,u64w (by omega) (by omega),by omega,Int.tdiv_eq_ediv_of_nonneg (by omega),Int.tmod_eq_emod_of_nonneg (by omega),rfl,rfl,u64w (by omega) (by omega),u64w (by omega) (by omega),hG,?_⟩
 rw [BB]
 omega
end Go.Proofs.YtaknchlegjcdhaaGreatDoor.Pr
namespace Go.Proofs.YtaknchlegjcdhaaGreatDoor.Pr
set_option linter.unusedVariables false
set_option linter.unusedSimpArgs false
open Go.RowKit Go.Proofs.YtaknchlegjcdhaaGreatDoor.NatTh Go.Proofs.YtaknchlegjcdhaaGreatDoorW.PrintWords Go.Proofs.YtaknchlegjcdhaaGreatDoorW.PrintLast Go.Proofs.YtaknchlegjcdhaaGreatDoorW.PrintMore
set_option maxRecDepth 1000000 in
set_option maxHeartbeats 4000000 in
theorem outer_loop (K:Act→World→Prop) (Q0:Exit→Act→World→Prop) (base:Nat) (w0 w:World) (gu cu gv cv gq cq lu lq:Nat) (u v q:List Int) (U0 z:Int) (u0 u1 u2 u3 u4 u5 u6 u7 u8 u9 u10 u16 u17 u18 u19 u20 u21 u22 u23 u24 u25 u26 u27 u28 u29 u30 u31 u32 u33 u34 u35 u36 u37 u38 u39 u40 u41 u42 u43 u44 u45 u46 u47 u48 u49 u50 u51 u52 u53 u54 u55 u56 u57 u58 u59 u60 u61 u62 u63 u64 u65 u66 u67 u68 u69 u70 u71 u72 u73 u74 u75 u76 u77 u78 u79 u80 u81 u82 u83 u84 u85 u86 u87 u88 u89 u90 u91 u92 u93 u94 u95 u96 u97 u98 u99 u100 u101 u102 u103 u104 u105 u106 u107 u108 u109 u110 u111 u112 u113 u114 u115 u116 u117 u118 u119 u120 u121 u122 u123 u124 u125 u126 u127 u128 u129 u130 u131 u132 u133 u134 u135 u136 u137 u138 u139 u140 u141 u142 u143 u144 u145 u146 u147 u148 u149 u150 u151 u152 u153 u154 u155 u156 u157 u158 u159 u160 u161 u162 u163 u164 u165 u166 u167 u168 u169 u170 u171 u172 u173 u174 u175 u176 u177 u178 u179 u180 u181 u182 u183 u184 u185 u186 u187 u188 u189 u190 u191 u192 u193 u194 u195 u196 u197 u198 u199 u200 u201 u202 u203 u204 u205 u206 u207 u208 u209 u210 u211 u212 u213 u214 u215 u216 u217 u218 u219 u220 u221 u222 u223 u224 u225 u226 u227 u228 u229 u230 u231 u232 u233 u234 u235 u236 u237 u238 u239 u240 u241 u242 u243 u244 u245 u246 u247 u248 u249 u250 u251 u252 u253 u254 u255 u256 u257 u258 u259 u260 u261 u262 u263 u264 u265 u266 u267 u268 u269 u270 u271 u272 u273 u274 u275 u276 u277 u278 u279 u280 u281 u282 u283 u284 u285 u286 u287 u288 u289 u290 u291 u292 u293 u294 u295 u296 u297 u298:Value)
  (hz:z = (q.length:Int) - 1) (hlq:q.length = lq) (hO:OutI U0 lu u v q q.length) (hD:DW base w0 w gu cu gv cv gq cq u v q)
  (hK:∀ (W:World) (u' q':List Int) (y15 y16 y17 y18 y19 y20 y21 y22 y23 y24 y25 y26 y107 y108 y109 y110 y111 y112 y113 y114 y115 y116 y117 y118 y119 y120 y121 y122 y123 y124 y125 y126 y127 y128 y129 y130 y131 y132 y133 y134 y135 y136 y137 y138 y139 y140 y141 y142 y143 y144 y145 y146 y147 y148 y149 y150 y151 y152 y153 y154 y155 y156 y157 y158 y159 y160 y161 y162 y163 y164 y165 y166 y167 y168 y169 y170 y171 y172 y173 y174 y175 y176 y177 y178 y179 y180 y181 y182 y183 y184 y185 y186 y187 y188 y189 y190 y191 y192 y193 y194 y195 y196 y197 y198 y199 y200 y201 y202 y203 y204 y205 y206 y207 y208 y209 y210 y211 y212 y213 y214 y215 y216 y217 y218 y219 y220 y221 y222 y223 y224 y225 y226 y227 y228 y229 y230 y231 y232 y233 y234 y235 y236 y237 y238 y239 y240 y241 y242 y243 y244 y245 y246 y247 y248 y249 y250 y251 y252 y253 y254 y255 y256 y257 y258 y259 y260 y261 y262 y263 y264 y265 y266 y267 y268 y269 y270 y271 y272 y273 y274 y275 y276 y277 y278 y279 y280 y281:Value),DW base w0 W gu cu gv cv gq cq u' v q'→OutI U0 lu u' v q' 0→q'.length = lq→K ⟨#[u0,u1,u2,u3,u4,u5,u6,u7,u8,u9,u10,.slice (some ⟨gu,0,none⟩) lu cu,.slice (some ⟨gv,0,none⟩) v.length cv,.int .i64 v.length,.slice (some ⟨gq,0,none⟩) lq cq,y15,y16,y17,y18,y19,y20,y21,y22,y23,y24,y25,y26,u27,u28,u29,u30,u31,u32,u33,u34,u35,u36,u37,u38,u39,u40,u41,u42,u43,u44,u45,u46,u47,u48,u49,u50,u51,u52,u53,u54,u55,u56,u57,u58,u59,u60,u61,u62,u63,u64,u65,u66,u67,u68,u69,u70,u71,u72,u73,u74,u75,u76,u77,u78,u79,u80,u81,u82,u83,u84,u85,u86,u87,u88,u89,u90,u91,u92,u93,u94,u95,u96,u97,u98,u99,u100,u101,u102,u103,u104,u105,u106,y107,y108,y109,y110,y111,y112,y113,y114,y115,y116,y117,y118,y119,y120,y121,y122,y123,y124,y125,y126,y127,y128,y129,y130,y131,y132,y133,y134,y135,y136,y137,y138,y139,y140,y141,y142,y143,y144,y145,y146,y147,y148,y149,y150,y151,y152,y153,y154,y155,y156,y157,y158,y159,y160,y161,y162,y163,y164,y165,y166,y167,y168,y169,y170,y171,y172,y173,y174,y175,y176,y177,y178,y179,y180,y181,y182,y183,y184,y185,y186,y187,y188,y189,y190,y191,y192,y193,y194,y195,y196,y197,y198,y199,y200,y201,y202,y203,y204,y205,y206,y207,y208,y209,y210,y211,y212,y213,y214,y215,y216,y217,y218,y219,y220,y221,y222,y223,y224,y225,y226,y227,y228,y229,y230,y231,y232,y233,y234,y235,y236,y237,y238,y239,y240,y241,y242,y243,y244,y245,y246,y247,y248,y249,y250,y251,y252,y253,y254,y255,y256,y257,y258,y259,y260,y261,y262,y263,y264,y265,y266,y267,y268,y269,y270,y271,y272,y273,y274,y275,y276,y277,y278,y279,y280,y281,u282,u283,u284,u285,u286,u287,u288,u289,u290,u291,u292,u293,u294,u295,u296,u297,u298],[]⟩ W) :
  Code.wp Tryz.prog (blkIn 1) (Exit.inBlock 1 (Exit.then K Q0)) ⟨#[u0,u1,u2,u3,u4,u5,u6,u7,u8,u9,u10,.slice (some ⟨gu,0,none⟩) lu cu,.slice (some ⟨gv,0,none⟩) v.length cv,.int .i64 v.length,.slice (some ⟨gq,0,none⟩) lq cq,.int .i64 z,u16,u17,u18,u19,u20,u21,u22,u23,u24,u25,u26,u27,u28,u29,u30,u31,u32,u33,u34,u35,u36,u37,u38,u39,u40,u41,u42,u43,u44,u45,u46,u47,u48,u49,u50,u51,u52,u53,u54,u55,u56,u57,u58,u59,u60,u61,u62,u63,u64,u65,u66,u67,u68,u69,u70,u71,u72,u73,u74,u75,u76,u77,u78,u79,u80,u81,u82,u83,u84,u85,u86,u87,u88,u89,u90,u91,u92,u93,u94,u95,u96,u97,u98,u99,u100,u101,u102,u103,u104,u105,u106,u107,u108,u109,u110,u111,u112,u113,u114,u115,u116,u117,u118,u119,u120,u121,u122,u123,u124,u125,u126,u127,u128,u129,u130,u131,u132,u133,u134,u135,u136,u137,u138,u139,u140,u141,u142,u143,u144,u145,u146,u147,u148,u149,u150,u151,u152,u153,u154,u155,u156,u157,u158,u159,u160,u161,u162,u163,u164,u165,u166,u167,u168,u169,u170,u171,u172,u173,u174,u175,u176,u177,u178,u179,u180,u181,u182,u183,u184,u185,u186,u187,u188,u189,u190,u191,u192,u193,u194,u195,u196,u197,u198,u199,u200,u201,u202,u203,u204,u205,u206,u207,u208,u209,u210,u211,u212,u213,u214,u215,u216,u217,u218,u219,u220,u221,u222,u223,u224,u225,u226,u227,u228,u229,u230,u231,u232,u233,u234,u235,u236,u237,u238,u239,u240,u241,u242,u243,u244,u245,u246,u247,u248,u249,u250,u251,u252,u253,u254,u255,u256,u257,u258,u259,u260,u261,u262,u263,u264,u265,u266,u267,u268,u269,u270,u271,u272,u273,u274,u275,u276,u277,u278,u279,u280,u281,u282,u283,u284,u285,u286,u287,u288,u289,u290,u291,u292,u293,u294,u295,u296,u297,u298],[]⟩ w:=by
 conv=>arg 2;whnf
 have HKK:=Aside0.mk hK
 have HD:=Aside0.mk hD
 have HO:=Aside0.mk hO
 have HZ:=Aside0.mk hz
 have HQ:=Aside0.mk hlq
 clear hK hD hO hz hlq
 go_wp2
 go_loopw [15] (fun a15 wr=>∃ (n:Nat) (u' q':List Int) (z:Int),a15 = .int .i64 z∧Aside0 (q'.length = lq)∧Aside0 (z = (n:Int) - 1)∧Aside0 (OutI U0 lu u' v q' n)∧Aside0 (DW base w0 wr gu cu gv cv gq cq u' v q')) (fun a _=>(intOf a + 1).toNat)
 case atStart=>exact ⟨q.length,u,q,z,rfl,HQ,HZ,HO,HD⟩
 case round =>
  clear HD HO HZ HQ
  obtain ⟨n,u1,q1,z,rfl,HQ,HZ,HO,HD⟩:=hrel
  rcases n with _|j
  ·have hz1:z = -1:=by rw [HZ.out];rfl
   subst hz1
   go_wp2
   exact HKK.out _ u1 q1 _ _ _ _ _ _ _ _ _ _ _ _ _ _ _ _ _ _ _ _ _ _ _ _ _ _ _ _ _ _ _ _ _ _ _ _ _ _ _ _ _ _ _ _ _ _ _ _ _ _ _ _ _ _ _ _ _ _ _ _ _ _ _ _ _ _ _ _ _ _ _ _ _ _ _ _ _ _ _ _ _ _ _ _ _ _ _ _ _ _ _ _ _ _ _ _ _ _ _ _ _ _ _ _ _ _ _ _ _ _ _ _ _ _ _ _ _ _ _ _ _ _ _ _ _ _ _ _ _ _ _ _ _ _ _ _ _ _ _ _ _ _ _ _ _ _ _ _ _ _ _ _ _ _ _ _ _ _ _ _ _ _ _ _ _ _ _ _ _ _ _ _ _ _ _ _ _ _ _ _ _ _ _ _ _ _ _ HD.out HO.out HQ.out
  ·have hz1:z = (j:Int):=by rw [HZ.out];omega
   subst hz1
   obtain rfl:u1.length = lu:=HO.out.llu
   have hjq:j < lq:=by rw [← HQ.out];exact HO.out.hjq
   obtain ⟨b0,b1,a1,y1,y0,x1,p,s,g,r,N⟩:=tn u1 v j HO.out.place HO.out.hsm
   have cy1:wr.cell? ⟨gu,b0,none⟩ = some (.int .u32 y1):=by rw [← N.y1e];exact (HD.out.ru.cell b0 N.l1).1
   have cy0:wr.cell? ⟨gu,b1,none⟩ = some (.int .u32 y0):=by rw [← N.y0e];exact (HD.out.ru.cell b1 N.l2).1
   have cx1:wr.cell? ⟨gv,a1,none⟩ = some (.int .u32 x1):=by rw [← N.x1e];exact (HD.out.rv.cell a1 N.l3).1
   have i1:=N.i1
   have i2:=N.i2
   have i3:=N.i3
   have j1:IntKind.i64.wrap ((j:Int) + (v.length:Int)) = (b0:Int):=(i64_w _).trans N.i1
   have j2:IntKind.i64.wrap ((b0:Int) - 1) = (b1:Int):=(i64_w _).trans N.i2
   have j3:IntKind.i64.wrap ((v.length:Int) - 1) = (a1:Int):=(i64_w _).trans N.i3
   have l1:=N.l1
   have l2:=N.l2
   have l3:=N.l3
   have s1:=N.wy1
   have s2:=N.wy0
   have s3:=N.wx1
   have s4:=N.hp
   have s5:=N.wp
   have s6:=N.hs
   have s7:=N.ws
   have s8:=N.xn
   have s9:=N.qg
   have t1:=N.rg
   have t2:=N.qg'
   have t3:=N.rg'
   have t4:=N.wg
   have t5:=N.wr
   have HN:=Aside0.mk N
   clear N
   go_wp2
   go_quiet (fail)
   go_wp2
   go_quiet (fail)
   go_wp2
   refine guess_loop _ _ _ _ _ _ _ j u1 v g r _ _ _ _ _ _ _ _ _ _ _ _ _ _ _ _ _ _ _ _ _ _ _ _ _ _ _ _ _ _ _ _ _ _ _ _ _ _ _ _ _ _ _ _ _ _ _ _ _ _ _ _ _ _ _ _ _ _ _ _ _ _ _ _ _ _ _ _ _ _ _ _ _ _ _ _ _ _ _ _ _ _ _ _ _ _ _ _ _ _ _ _ _ _ _ _ _ _ _ _ _ _ _ _ _ _ _ _ _ _ _ _ _ _ _ _ _ _ _ _ _ _ _ _ _ _ _ _ _ _ _ _ _ _ _ _ _ _ _ _ _ _ _ _ _ _ _ _ _ _ _ _ _ _ _ _ _ _ _ _ _ _ _ _ _ _ _ _ _ _ _ _ _ _ _ _ _ _ _ _ _ _ _ _ _ _ _ _ _ _ _ _ _ _ _ _ _ _ _ _ _ _ _ _ _ _ _ _ _ _ _ _ _ _ _ _ _ _ _ _ _ _ _ _ _ _ _ _ _ _ _ _ _ _ _ _ _ _ _ _ _ _ _ _ _ _ _ _ _ _ _ _ _ _ _ _ _ _ _ _ _ _ _ _ _ _ _ _ _ _ _ _ _ _ _ _ _ _ _ _ _ _ _ _ _ _ _ _ _ _ _ _ _ HO.out.place HO.out.hsm HN.out.G HN.out.rB (fun i hi=>by first|exact (HD.out.ru.cell i hi).1|exact ((HD.out.drewN _).ru.cell i hi).1) (fun i hi=>by first|exact (HD.out.rv.cell i hi).1|exact ((HD.out.drewN _).rv.cell i hi).1) ?_
   intro m1 g2 a18 a144 a145 a146 a147 a148 a149 a150 a151 a152 a153 a154 a155 a156 a157 a158 a159 a160 a161 a162 a163 a164 a165 a166 a167 a168 a169 a170 a171 a172 a173 a174 a175 a176 a177 a178 a179 hg
   have HG:=Aside0.mk hg
   clear hg i1 i2 i3 j1 j2 j3 l1 l2 l3 s1 s2 s3 s4 s5 s6 s7 s8 s9 t1 t2 t3 t4 t5 cy1 cy0 cx1 HN
   have HD1:Aside0 (DW base w0 (wr.drewN m1) gu cu gv cv gq cq u1 v q1):=⟨HD.out.drewN m1⟩
   go_wp2
   refine sub_loop _ _ base w0 _ gu cu gv cv gq cq j u1 v q1 g2 _ _ _ _ _ _ _ _ _ _ _ _ _ _ _ _ _ _ _ _ _ _ _ _ _ _ _ _ _ _ _ _ _ _ _ _ _ _ _ _ _ _ _ _ _ _ _ _ _ _ _ _ _ _ _ _ _ _ _ _ _ _ _ _ _ _ _ _ _ _ _ _ _ _ _ _ _ _ _ _ _ _ _ _ _ _ _ _ _ _ _ _ _ _ _ _ _ _ _ _ _ _ _ _ _ _ _ _ _ _ _ _ _ _ _ _ _ _ _ _ _ _ _ _ _ _ _ _ _ _ _ _ _ _ _ _ _ _ _ _ _ _ _ _ _ _ _ _ _ _ _ _ _ _ _ _ _ _ _ _ _ _ _ _ _ _ _ _ _ _ _ _ _ _ _ _ _ _ _ _ _ _ _ _ _ _ _ _ _ _ _ _ _ _ _ _ _ _ _ _ _ _ _ _ _ _ _ _ _ _ _ _ _ _ _ _ _ _ _ _ _ _ _ _ _ _ _ _ _ _ _ _ _ _ _ _ _ _ _ _ _ _ _ _ _ _ _ _ _ _ _ _ _ _ _ _ _ _ _ _ _ _ _ _ _ _ _ _ _ _ _ _ _ _ _ _ _ _ _ _ _ _ _ _ _ _ _ _ _ _ HO.out.wu HO.out.wv HO.out.hj HO.out.hsm (HO.out.g0 HG.out) (HO.out.g1 HG.out) (by first|exact HD.out.drewN _|exact HD1.out) ?_
   intro w2 u2 c b b21 b22 b23 b181 b182 b183 b184 b185 b186 b187 b188 b189 b190 b191 b192 b193 b194 b195 b196 b197 b198 b199 b200 b201 b202 b203 b204 b205 b206 b207 b208 b209 b210 b211 b212 b213 b214 b215 b216 b217 b218 b219 hD2 hS
   have HD2:=Aside0.mk hD2
   have HS:=Aside0.mk hS
   clear hD2 hS HD1 HD
   obtain ⟨n,y,t0,t,k1,HNN,k2,k3,hl,hy,k4,k5,k6,k7,k8,hcase⟩:=last_of HO.out HG.out HS.out
   have HC:=Aside0.mk hcase
   have HY:=Aside0.mk hy
   have k1':IntKind.i64.wrap ((j:Int) + (v.length:Int)) = (n:Int):=(i64_w _).trans k1
   have cy:w2.cell? ⟨gu,n,none⟩ = some (.int .u32 y):=by rw [← hy];exact (HD2.out.ru.cell n k3).1
   have fy:w2.frozen? ⟨gu,n,none⟩ = false:=(HD2.out.ru.cell n k3).2
   have HL:=Aside0.mk hl
   have HNN1:=Aside0.mk HNN
   clear hcase hy hl HNN k3
   have fq:w2.frozen? ⟨gq,j,none⟩ = false:=(HD2.out.rq.cell j HO.out.hjq).2
   have cq':w2.cell? ⟨gq,j,none⟩ = some (.int .u32 (q1.getD j 0)):=(HD2.out.rq.cell j HO.out.hjq).1
   have nuq:gu≠gq:=HD2.out.uq
   have nqu:gq≠gu:=HD2.out.uq.symm
   have ez:wrap64 ((j:Int) - 1) = (j:Int) - 1:=out_dec HO.out
   rcases HC.out with ⟨rfl,hg2,hO2,hg0,hg1⟩|⟨rfl,hg2,hg0,hg1,hadd⟩
   ·have HO2:=Aside0.mk hO2
    have HG2:=Aside0.mk hg2
    have m1:IntKind.u32.wrap g2 = g2:=u32w hg0 hg1
    have m2:g2 % 4294967296 = g2:=u32m hg0 hg1
    clear hO2 hg2
    go_wp2
    go_roundw
    case rel=>exact ⟨j,u2.set n 0,q1.set j g2,(j:Int) - 1,(by first|rfl|exact congrArg _ ez),⟨List.length_set.trans HQ.out⟩,⟨rfl⟩,HO2,⟨(HD2.out.setU n 0).setQ j g2⟩⟩
    case measure=>first|exact out_meas rfl|(rw [ez];exact out_meas rfl)
   ·have HG2:=Aside0.mk hg2
    have HADD:=Aside0.mk hadd
    have m0:IntKind.u64.wrap (g2 - 1) = g2 - 1:=u64w' hg0 hg1
    have m1:IntKind.u32.wrap (g2 - 1) = g2 - 1:=u32w hg0 hg1
    have m2:(g2 - 1) % 4294967296 = g2 - 1:=u32m hg0 hg1
    clear hadd hg2
    go_wp2
    refine add_loop _ _ base w0 _ gu cu gv cv gq cq j u1.length u2 v q1 _ _ _ _ _ _ _ _ _ _ _ _ _ _ _ _ _ _ _ _ _ _ _ _ _ _ _ _ _ _ _ _ _ _ _ _ _ _ _ _ _ _ _ _ _ _ _ _ _ _ _ _ _ _ _ _ _ _ _ _ _ _ _ _ _ _ _ _ _ _ _ _ _ _ _ _ _ _ _ _ _ _ _ _ _ _ _ _ _ _ _ _ _ _ _ _ _ _ _ _ _ _ _ _ _ _ _ _ _ _ _ _ _ _ _ _ _ _ _ _ _ _ _ _ _ _ _ _ _ _ _ _ _ _ _ _ _ _ _ _ _ _ _ _ _ _ _ _ _ _ _ _ _ _ _ _ _ _ _ _ _ _ _ _ _ _ _ _ _ _ _ _ _ _ _ _ _ _ _ _ _ _ _ _ _ _ _ _ _ _ _ _ _ _ _ _ _ _ _ _ _ _ _ _ _ _ _ _ _ _ _ _ _ _ _ _ _ _ _ _ _ _ _ _ _ _ _ _ _ _ _ _ _ _ _ _ _ _ _ _ _ _ _ _ _ _ _ _ _ _ _ _ _ _ _ _ _ _ _ _ _ _ _ _ _ _ _ _ _ _ _ _ _ _ _ _ _ _ _ _ _ _ _ _ _ _ _ _ _ _ _ _ HL.out HS.out.run.wd HO.out.wv (by rw [HL.out];exact HO.out.hj) (by rw [HL.out];exact HO.out.hsm) HD2.out ?_
    intro w3 u3 up c26 c236 c237 c238 c239 c240 c241 c242 c243 c244 c245 c246 c247 c248 c249 c250 c251 c252 c253 c254 c255 c256 c257 c258 c259 c260 c261 c262 c263 c264 hD3 hA
    obtain ⟨rfl,hl3,hO3⟩:=HADD.out u3 up hA
    have HD3:=Aside0.mk hD3
    have HO3:=Aside0.mk hO3
    have HL3:=Aside0.mk hl3
    have k9:n < u3.length:=by rw [hl3];exact k2
    have cy3:w3.cell? ⟨gu,n,none⟩ = some (.int .u32 (u3.getD n 0)):=(HD3.out.ru.cell n k9).1
    have fy3:w3.frozen? ⟨gu,n,none⟩ = false:=(HD3.out.ru.cell n k9).2
    have fq3:w3.frozen? ⟨gq,j,none⟩ = false:=(HD3.out.rq.cell j HO.out.hjq).2
    have cq3:w3.cell? ⟨gq,j,none⟩ = some (.int .u32 (q1.getD j 0)):=(HD3.out.rq.cell j HO.out.hjq).1
    clear hD3 hA hO3 hl3 k9
    go_wp2
    go_roundw
    case rel=>exact ⟨j,u3.set n 0,q1.set j (g2 - 1),(j:Int) - 1,(by first|rfl|exact congrArg _ ez),⟨List.length_set.trans HQ.out⟩,⟨rfl⟩,HO3,⟨(HD3.out.setU n 0).setQ j (g2 - 1)⟩⟩
    case measure=>first|exact out_meas rfl|(rw [ez];exact out_meas rfl)
end Go.Proofs.YtaknchlegjcdhaaGreatDoor.Pr
namespace Go.Proofs.YtaknchlegjcdhaaGreatDoor.Pr
open Go.RowKit Go.Proofs.YtaknchlegjcdhaaGreatDoorW.PrintWords Go.Proofs.YtaknchlegjcdhaaGreatDoorW.PrintLast Go.Proofs.YtaknchlegjcdhaaGreatDoorW.PrintMore
attribute [local go_sem] max2_int min2_int max_two min_two max_three min_three max_four min_four
set_option maxHeartbeats 8000000
set_option maxRecDepth 100000
set_option linter.unusedVariables false
set_option linter.unusedSimpArgs false
theorem of_own (k:Nat) (a0:Int) (r:List Int) (w:World) (h:natural_of.f k a0 = some r) :
  Calls Tryz.prog 94 #[.int .u64 a0] w fun e w'=>∃ v0_:Value,e = .returned (v0_)∧Kd.R (Kd.int .u32) 95 w' w.heap.size (fun k_=>(w.heap.size≤k_)) v0_ r∧Below w.heap.size w w':=by
 have HB:=Aside0.mk (Below.refl w.heap.size w)
 have H:((natural_num_trim.f k (([(Int.tmod a0 1000000000) % 4294967296,(IntKind.u64.wrap (Int.tdiv a0 1000000000)) % 4294967296]:List Int))).bind fun t185=>(some t185)) = some r:=h
 clear h
 obtain ⟨y182,hy182⟩:∃ y_:List Int,y_ = (([(Int.tmod a0 1000000000) % 4294967296,(IntKind.u64.wrap (Int.tdiv a0 1000000000)) % 4294967296]:List Int)):=⟨_,rfl⟩
 replace H:((natural_num_trim.f k y182).bind fun t185=>(some t185)) = some r:=by first|(rw [hy182];with_reducible exact H)|(have H2_:=(Option.bind_some _ _).symm.trans H;rw [hy182];with_reducible exact H2_)|(have H2_:=(Option.bind_some _ _).symm.trans H;with_reducible exact H2_)|with_reducible exact H|(rw [hy182];exact H)|exact H
 have Ny182:=Aside0.mk hy182
 clear hy182
 obtain ⟨t185,A2,H⟩:=bn_ H
 obtain rfl:=Option.some.inj H
 go_enter Tryz.func94,Tryz.ntmps94
 go_wp2_with (first|((with_reducible refine gate_dst (N:=9) rfl ?_);refine Kd.R_lit (Kd.int .u32) _ 95 ?hg (N:=9) ?hd (xs:=([(Int.tmod a0 1000000000) % 4294967296,(IntKind.u64.wrap (Int.tdiv a0 1000000000)) % 4294967296]:List Int)) (inner:=[.int .u32 ((Int.tmod a0 1000000000) % 4294967296),.int .u32 ((IntKind.u64.wrap (Int.tdiv a0 1000000000)) % 4294967296)]) (ok:=fun _=>True) (okp:=fun _=>True) ?hr ?hp (fun _ hk=>hk) trivial (Below.refl _ _) (Nat.le_refl _) sm_ ?_;(case hd=>rfl);(case hg=>rfl);(case hr=>first|(go_simp;done)|(go_simp;rfl));(case hp=>exact (Reps.one (show Kd.M (Kd.int .u32) _ _ _ ((Int.tmod a0 1000000000) % 4294967296) [.int .u32 ((Int.tmod a0 1000000000) % 4294967296)] from rfl) (Reps.one (show Kd.M (Kd.int .u32) _ _ _ ((IntKind.u64.wrap (Int.tdiv a0 1000000000)) % 4294967296) [.int .u32 ((IntKind.u64.wrap (Int.tdiv a0 1000000000)) % 4294967296)] from rfl) (Reps.none _ _))));intro v183 w3 ho4 hb hg_ hnew_;clear hg_ hnew_;(first|rw [← Ny182.out] at ho4|(simp only [Int.reduceToNat] at ho4;rw [← Ny182.out] at ho4));have HO184:=Aside0.mk (Kd.R_lower (Kd.R_newM (M:=fun k_=>(w.heap.size≤k_)) ho4 (below_size bx_) (fun k_ h_=>h_)) (below_size bx_));replace HB:=bs_ hb;clear hb ho4;obtain ⟨Ao5,co5,eo5⟩:=Kd.R_slice HO184.out;subst eo5)|((with_reducible refine gate_callee (f:=97) rfl ?_);refine gm_ (some 10) Tryz.func97 #[.slice Ao5 y182.length co5] ?_;(refine (trim_own k w.heap.size (fun k_=>(w.heap.size≤k_)) _ _ y182 t185 _ ?side1 A2.out).mono ?_);(case side1=>(with_reducible repeat (first|apply Kd.R_alloc|apply Kd.R_drewN|apply Kd.R_drew));first|exact HO184.out|exact Kd.R_mono HO184.out (fun _ hk=>hk.1));rintro e w6 ⟨v186,rfl,ho0,hb⟩;refine ⟨_,rfl,?_⟩;have n1_:=Aside0.mk ho0;have n2_:=Aside0.mk (below_step bx_ hb);clear HO184;clear HB;have HO187:=n1_;have HB:=n2_;clear n1_ n2_;(try clear hb);(try clear ho0)))
 go_ret
 exact ⟨_,rf_,by (with_reducible repeat (first|apply Kd.R_alloc|apply Kd.R_drewN|apply Kd.R_drew));exact HO187.out,bx_⟩
end Go.Proofs.YtaknchlegjcdhaaGreatDoor.Pr
namespace Go.Proofs.YtaknchlegjcdhaaGreatDoor.Pr
open Go.RowKit Go.Proofs.YtaknchlegjcdhaaGreatDoorW.PrintWords Go.Proofs.YtaknchlegjcdhaaGreatDoorW.PrintLast Go.Proofs.YtaknchlegjcdhaaGreatDoorW.PrintMore
attribute [local go_sem] max2_int min2_int max_two min_two max_three min_three max_four min_four
set_option maxHeartbeats 8000000
set_option maxRecDepth 100000
set_option linter.unusedVariables false
set_option linter.unusedSimpArgs false
theorem by_own (k:Nat) (A0:Option Addr) (c0:Nat) (l0:List Int) (a1:Int) (r1:List Int) (r2:List Int) (w:World) (hr0:Kd.C (Kd.int .u32) w A0 l0.length l0) (hc0:l0.length≤c0) (h:natural_num_by.f k l0 a1 = some (r1,r2)) :
  Calls Tryz.prog 95 #[.slice A0 l0.length c0,.int .u64 a1] w fun e w'=>∃ v0_ v1_:Value,e = .returned (.tuple #[v0_,v1_])∧Kd.R (Kd.int .u32) 95 w' w.heap.size (fun k_=>(w.heap.size≤k_)) v0_ r1∧Kd.V (Kd.int .u32) 95 w' w.heap.size (fun k_=>(w.heap.size≤k_)∧some k_≠(v0_:Value).ownBlock) v1_ r2∧Below w.heap.size w w':=by
 have HR0:=Aside0.mk hr0
 have HC0:=Aside0.mk hc0
 clear hr0 hc0
 have HB:=Aside0.mk (Below.refl w.heap.size w)
 have H:(if 0≤(l0.length:Int) then (if ((l0.length:Int):Int).toNat≤70368744177664 then (natural_num_by.l0 k l0 a1 (List.replicate ((l0.length:Int):Int).toNat 0) 0 (wrap64 ((l0.length:Int) - 1))) else (none)) else (none)) = some (r1,r2):=h
 clear h
 by_cases c3:0≤(l0.length:Int)
 ·rw [if_pos c3] at H
  have c3b0:=eq_true c3
  have c3b1:decide (0≤(l0.length:Int)) = true:=decide_eq_true c3
  clear c3
  by_cases c4:((l0.length:Int):Int).toNat≤70368744177664
  ·rw [if_pos c4] at H
   have c4b0:=eq_true c4
   have c4b1:decide (((l0.length:Int):Int).toNat≤70368744177664) = true:=decide_eq_true c4
   clear c4
   obtain ⟨y188,hy188⟩:∃ y_:List Int,y_ = (List.replicate ((l0.length:Int):Int).toNat 0):=⟨_,rfl⟩
   replace H:(natural_num_by.l0 k l0 a1 y188 0 (wrap64 ((l0.length:Int) - 1))) = some (r1,r2):=by first|(rw [hy188];with_reducible exact H)|(have H2_:=(Option.bind_some _ _).symm.trans H;rw [hy188];with_reducible exact H2_)|(have H2_:=(Option.bind_some _ _).symm.trans H;with_reducible exact H2_)|with_reducible exact H|(rw [hy188];exact H)|exact H
   have Ny188:=Aside0.mk hy188
   clear hy188
   have H':=Aside0.mk H
   clear H
   go_enter Tryz.func95,Tryz.ntmps95
   go_wp2_with (first|((with_reducible refine gate_dst (N:=11) rfl ?_);refine Kd.R_make (Kd.int .u32) _ 95 rfl (N:=11) rfl 74 _ _ rfl (l0.length:Int) rfl rfl Tryz.underlying74 (.int .u32 0) 4 info95 rfl de_ (by omega) 0 (ok:=fun _=>True) (okp:=fun _=>True) rfl (fun _ hk=>hk) trivial (of_decide_eq_true (by first|(with_reducible assumption)|assumption)) (Nat.le_trans (Nat.mul_le_mul_right _ (of_decide_eq_true (by first|(with_reducible assumption)|assumption):(l0.length:Int).toNat≤70368744177664)) (by omega)) (Below.refl _ _) (Nat.le_refl _) ?_;intro v189 w5 ho6 hb hg_ hnew_;clear hg_ hnew_;(first|rw [← Ny188.out] at ho6|(simp only [Int.reduceToNat] at ho6;rw [← Ny188.out] at ho6));have HO190:=Aside0.mk (Kd.R_lower (Kd.R_newM (M:=fun k_=>(w.heap.size≤k_)) ho6 (below_size bx_) (fun k_ h_=>h_)) (below_size bx_));replace HB:=bs_ hb;clear hb ho6))
   go_loopg [7,8] k (fun kq v7 v8 w'=>∃ (x6_1:List Int) (x7_1:Int) (x8_1:Int),v7 = .int .u64 x7_1∧v8 = .int .i64 x8_1∧Aside0 (natural_num_by.l0 kq l0 a1 x6_1 x7_1 x8_1 = some (r1,r2))∧Aside0 (kq≤k)∧Aside0 (Kd.R (Kd.int .u32) 95 w' w.heap.size (fun k_=>(w.heap.size≤k_)) v189 x6_1)∧Aside0 (Below w.heap.size w w'))
   case atStart=>exact ⟨(y188),(0),(wrap64 ((l0.length:Int) - 1)),(by first|rfl|(simp;done)|(simp [*];done)),(by first|rfl|(simp;done)|(simp [*];done)),H',⟨Nat.le_refl _⟩,⟨by (with_reducible repeat (first|apply Kd.R_alloc|apply Kd.R_drewN|apply Kd.R_drew));exact Kd.R_mono HO190.out (fun _ hk=>hk.1)⟩,⟨bx_⟩⟩
   case round =>
    clear H'
    try clear p2
    try clear c3
    try clear c3b0
    try clear c3b1
    try clear c4
    try clear c4b0
    try clear c4b1
    try clear c5
    try clear p6
    obtain ⟨x6_1,x7_1,x8_1,rfl,rfl,HA,HK1,HO_6,HB⟩:=hrel
    cases gk with
    | zero=>exact absurd HA.out (by simp [natural_num_by.l0])
    | succ k1 =>
     have H:=HA.out
     clear HA
     simp only [natural_num_by.l0] at H
     by_cases c7:x8_1 ≥ 0
     ·rw [if_pos c7] at H
      have c7b0:decide (0≤x8_1) = true:=decide_eq_true c7
      clear c7
      by_cases c8:0≤x8_1
      ·rw [if_pos c8] at H
       have c8b0:decide (0≤x8_1) = true:=decide_eq_true c8
       clear c8
       by_cases c9:x8_1 < (l0.length:Int)
       ·rw [if_pos c9] at H
        have c9b0:decide (x8_1 < (l0.length:Int)) = true:=decide_eq_true c9
        clear c9
        by_cases c10:a1 = 0
        ·rw [if_pos c10] at H
         exact absurd H sm_
        ·rw [if_neg c10] at H
         have c10b0:(a1 == 0) = false:=beq_eq_false_iff_ne.mpr c10
         have c10b1:(a1 != 0) = true:=bne_iff_ne.mpr c10
         by_cases c11:x8_1 < (x6_1.length:Int)
         ·rw [if_pos c11] at H
          have c11b0:decide (x8_1 < (x6_1.length:Int)) = true:=decide_eq_true c11
          clear c11
          obtain ⟨y192,hy192⟩:∃ y_:List Int,y_ = (x6_1.set (x8_1:Int).toNat ((IntKind.u64.wrap (Int.tdiv (IntKind.u64.wrap ((IntKind.u64.wrap (x7_1 * 1000000000)) + (IntKind.u64.wrap (rd l0 x8_1)))) a1)) % 4294967296)):=⟨_,rfl⟩
          replace H:(natural_num_by.l0 k1 l0 a1 y192 (Int.tmod (IntKind.u64.wrap ((IntKind.u64.wrap (x7_1 * 1000000000)) + (IntKind.u64.wrap (rd l0 x8_1)))) a1) (wrap64 (x8_1 - 1))) = some (r1,r2):=by first|(rw [hy192];with_reducible exact H)|(have H2_:=(Option.bind_some _ _).symm.trans H;rw [hy192];with_reducible exact H2_)|(have H2_:=(Option.bind_some _ _).symm.trans H;with_reducible exact H2_)|with_reducible exact H|(rw [hy192];exact H)|exact H
          have Ny192:=Aside0.mk hy192
          clear hy192
          have H':=Aside0.mk H
          clear H
          have p191:0≤(x8_1:Int):=da_
          have q191:x8_1 < (l0.length:Int):=da_
          obtain ⟨ad191,e191,hx191_0⟩:=Kd.at_int HR0.out x8_1 p191 q191
          cases e191
          replace hx191_0:=(HB.out.cell (World.block_lt_of_cell? w _ hx191_0)).trans hx191_0
          replace p191:=eq_true p191
          replace q191:=eq_true q191
          have p12:0≤(x8_1:Int):=da_
          have q12:(x8_1:Int) < ((x6_1.length:Int):Int):=da_
          obtain ⟨go12,co12,eo12,gb12,gl12,cl12,HG12⟩:=Kd.R_form HO_6.out (by omega)
          (first|cases eo12|(injection eo12 with ea_ en_ ec_;(first|subst ea_|(injection ea_ with ea_;subst ea_));subst ec_;clear en_))
          have GB12:=Aside0.mk gb12
          have GG12:=Aside0.mk HG12
          clear gb12 gl12 HG12
          obtain ⟨hx12_0,hf12_0⟩:=Kd.R_celln 0 HO_6.out (x8_1:Int) p12 q12
          replace p12:=eq_true p12
          replace q12:=eq_true q12
          have HP13:=Kd.R_putg HO_6.out (x8_1:Int) ((IntKind.u64.wrap (Int.tdiv (IntKind.u64.wrap ((IntKind.u64.wrap (x7_1 * 1000000000)) + (IntKind.u64.wrap (rd l0 x8_1)))) a1)) % 4294967296)
          go_wp2_with (first|((with_reducible refine gate_store (t:=95) (p:=33) rfl ?_);refine store_event (t:=95) (p:=33) (v:=?vo_w14) (w1:=(wr.setCell ⟨go12,(x8_1:Int).toNat,none⟩ (.int .u32 ((IntKind.u64.wrap (Int.tdiv (IntKind.u64.wrap ((IntKind.u64.wrap (x7_1 * 1000000000)) + (IntKind.u64.wrap (rd l0 x8_1)))) a1)) % 4294967296)))) ?hg ?ho ?hn ?hr ?_;(case ho=>rfl);(case hg=>rfl);(case hn=>rfl);(case hr=>first|(go_simp;done)|(go_simp;rfl));intro w14 hw;have hg:wr.grownBy w14 (some go12):=(by rw [hw];exact HP13.2);have hp_:Kd.R (Kd.int .u32) 95 w14 w.heap.size (fun k_=>(w.heap.size≤k_)) (.slice (some ⟨go12,0,none⟩) x6_1.length co12) y192:=(by rw [hw,Ny192.out];exact HP13.1);clear HP13;replace HO_6:=Aside0.mk hp_;replace HB:=Aside0.mk ((by rw [hw];exact below_set (HB.out) GB12.out:Below w.heap.size w w14));clear hg hw hp_))
          go_roundg k1
          case measure=>have:=HK1.out;omega
          case rel=>exact ⟨(y192),(Int.tmod (IntKind.u64.wrap ((IntKind.u64.wrap (x7_1 * 1000000000)) + (IntKind.u64.wrap (rd l0 x8_1)))) a1),(wrap64 (x8_1 - 1)),(by first|rfl|(simp;done)|(simp [*];done)),(by first|rfl|(simp;done)|(simp [*];done)),H',⟨by have:=HK1.out;omega⟩,⟨by (with_reducible repeat (first|apply Kd.R_alloc|apply Kd.R_drewN|apply Kd.R_drew));first|exact HO_6.out|(rw [Ny192.out];exact (Kd.R_putg (by first|exact Kd.R_drewN HO_6.out _|(apply Kd.R_drewN;exact HO_6.out)) (x8_1:Int) ((IntKind.u64.wrap (Int.tdiv (IntKind.u64.wrap ((IntKind.u64.wrap (x7_1 * 1000000000)) + (IntKind.u64.wrap (rd l0 x8_1)))) a1)) % 4294967296)).1)|(rw [Ny192.out];exact (Kd.R_putg HO_6.out (x8_1:Int) ((IntKind.u64.wrap (Int.tdiv (IntKind.u64.wrap ((IntKind.u64.wrap (x7_1 * 1000000000)) + (IntKind.u64.wrap (rd l0 x8_1)))) a1)) % 4294967296)).1)⟩,⟨by first|(exact below_set bx_ GB12.out)|(repeat (first|(with_reducible first|exact HB.out|apply below_alloc|apply pw_below_drewN|apply below_drew1)|exact HB.out))⟩⟩
         ·rw [if_neg c11] at H
          exact absurd H sm_
       ·rw [if_neg c9] at H
        exact absurd H sm_
      ·rw [if_neg c8] at H
       exact absurd H sm_
     ·rw [if_neg c7] at H
      have c7b0:decide (0≤x8_1) = false:=decide_eq_false c7
      clear c7
      obtain ⟨t193,A15,H⟩:=bn_ H
      obtain ⟨t196,A16,H⟩:=bn_ H
      simp only [Option.some.injEq,Prod.mk.injEq] at H
      obtain ⟨rfl,rfl⟩:=H
      obtain ⟨Ao17,co17,eo17⟩:=Kd.R_slice HO_6.out
      subst eo17
      go_wp2_with (first|((with_reducible refine gate_callee (f:=97) rfl ?_);refine gm_ (some 38) Tryz.func97 #[.slice Ao17 x6_1.length co17] ?_;(refine (trim_own k1 w.heap.size (fun k_=>(w.heap.size≤k_)) _ _ x6_1 t193 _ ?side1 A15.out).mono ?_);(case side1=>(with_reducible repeat (first|apply Kd.R_alloc|apply Kd.R_drewN|apply Kd.R_drew));exact HO_6.out);rintro e w18 ⟨v194,rfl,ho0,hb⟩;refine ⟨_,rfl,?_⟩;have n1_:=Aside0.mk ho0;have n2_:=Aside0.mk (below_step bx_ hb);clear HO_6;clear HB;have HO195:=n1_;have HB:=n2_;clear n1_ n2_;(try clear hb);(try clear ho0))|((with_reducible refine gate_callee (f:=94) rfl ?_);refine gm_ (some 40) Tryz.func94 #[.int .u64 x7_1] ?_;(with_reducible refine (natural_of.calls k1 x7_1 t196 _ A16.out).mono ?_);rintro e w19 ⟨v197,rfl,ho0,hb⟩;refine ⟨_,rfl,?_⟩;have n1_:=Aside0.mk (Kd.R_below (by (with_reducible repeat (first|apply Kd.R_alloc|apply Kd.R_drewN|apply Kd.R_drew));exact HO195.out) hb);have n2_:=Aside0.mk (Kd.V_lower (Kd.V_mono (ok':=fun k_=>(w.heap.size≤k_)∧some k_≠(v194:Value).ownBlock) ho0 (fun k_ hk_=>⟨(Nat.le_trans (below_size bx_) hk_),(Kd.fresh' (Kd.R_lt (by (with_reducible repeat (first|apply Kd.R_alloc|apply Kd.R_drewN|apply Kd.R_drew));exact HO195.out)) k_ hk_)⟩)) (below_size bx_));have n3_:=Aside0.mk (below_step bx_ hb);clear HO195;clear HB;have HO195:=n1_;have HO198:=n2_;have HB:=n3_;clear n1_ n2_ n3_;(try clear hb);(try clear ho0)))
      go_ret2
      exact ⟨_,_,rf_,by (with_reducible repeat (first|apply Kd.R_alloc|apply Kd.R_drewN|apply Kd.R_drew));exact HO195.out,by (with_reducible repeat (first|apply Kd.V_alloc|apply Kd.V_drewN|apply Kd.V_drew));exact HO198.out,bx_⟩
  ·rw [if_neg c4] at H
   exact absurd H sm_
 ·rw [if_neg c3] at H
  exact absurd H sm_
end Go.Proofs.YtaknchlegjcdhaaGreatDoor.Pr
