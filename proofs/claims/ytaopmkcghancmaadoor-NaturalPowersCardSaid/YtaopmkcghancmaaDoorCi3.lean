/- Part 3 of 3: garboardlaw01.NaturalPowers (power and root: the program's answers and the reference's are the same; at most 120 bytes, powers up to 30 bytes) answers true for every input, and each argument reads behind the call as before. The library's tables are tied to the program's text by the card. -/
import Derived.Laws.StructEq
import Derived.Test.YtaopmkcghancmaaDoorProg
import Derived.Below
import Derived.Deep.Draws
import Derived.Deep.AppendLies
import Derived.Maps.AppendAt
import Derived.OwnWalk
import Derived.Laws.BytesArg
import Derived.Laws.MakeOwn
import Derived.Laws.OwnMore
import Derived.Deep.OwnRows
import Derived.Tactics
import Derived.Lib.ConvBytes
import Derived.Laws.Slices
import Derived.WalkKit
import Derived.KernelRfl
import Derived.RowKit3
import Derived.Deep.LoopGhost
import Derived.Deep.QuietTactic
import Derived.BigQuiet
import Derived.WideLaws
import Derived.Deep.DeepCutAuto
import Derived.Deep.CutBlock
import Derived.Deep.RegionHeld3
import Derived.Laws.Rows
import Derived.Lib.AppendStr
import Derived.ArgAppend
import Derived.Laws.IdiomCopy
import Derived.OrdersHeld
import Derived.Laws.BitsLemmas
import Derived.RowKit
import Derived.Shelf.Strings.Builder1
import Derived.Shelf.Strings.Builder2
import Derived.Shelf.Small.Wraps
import Derived.Shelf.Strings.BuilderF
import Derived.Shelf.Strings.BuilderK
import Derived.Shelf.Strings.Builder2Cap
import Derived.Shelf.Strconv.Itoa0
import Derived.Shelf.Strconv.Itoa1
import Derived.Shelf.LaysM
import Derived.Shelf.Strconv.Itoa2
import Derived.Shelf.Strconv.Itoa3
import Derived.Shelf.Strconv.Clone
import Derived.Shelf.Strconv.SyntaxError
import Derived.Shelf.Strconv.Lower
import Derived.Shelf.Strconv.ParseUint10
import Derived.Shelf.Strconv.ParseUint10Empty
import Derived.Shelf.Strconv.RangeError
import Derived.Shelf.Strconv.ParseUintEmpty
import Derived.Shelf.Strconv.ParseUint10b64
import Derived.Shelf.Strconv.ParseUint10b32
import Derived.Shelf.Strconv.ParseUint10b16
import Derived.Shelf.Strconv.ParseUint10b8
import Derived.Shelf.Strings.Prefix
import Derived.Shelf.Bits.Mul64
import Derived.Shelf.Strings.Repeat
import Derived.Ground.Names2Prog
import Derived.Shelf.Slices.SearchI
import Derived.Ground.MpProg
import Derived.Shelf.Pu.ParseUintPublic10
import Derived.Lib.AtoiErrMem
import Derived.RangeFuncFrom
import Derived.RangeFuncBox
import Derived.RangeFuncLeaves
import Derived.RangeFuncCalls
import Derived.RangeFuncBound
import Derived.Shelf.Abstract
import Derived.OwnWalkIn
import Derived.TacticsInMore
import Derived.LoopNIn
import Derived.LoopIn
import Derived.Lib.Hide
import Derived.Lib.FrozenHead
import Derived.Lib.AppendIntMem
import Derived.Lib.Walk
import Derived.Lib.ItoaMem
import Derived.BigCall
import Derived.BigGuard
import Derived.SevenTiedAt
import Derived.Test.YtaopmkcghancmaaDoorCi2
set_option linter.unusedVariables false
set_option linter.unusedSimpArgs false
namespace Go.Proofs.YtaopmkcghancmaaDoor.Pr
open Go.RowKit Go.Lib Go.Proofs.YtaopmkcghancmaaDoorW.PrintWords Go.Proofs.YtaopmkcghancmaaDoorW.PrintLast Go.Proofs.YtaopmkcghancmaaDoorW.PrintMore Go.Proofs.YtaopmkcghancmaaDoor.NatTh
theorem power_loop (x n:Nat) (hx:(numOf x).length≤100000000) (hn:n≤1000):∀ (d i o:Nat),i + d = n→(numOf o).length + d * (numOf x).length≤1000000000000→Ev (fun k=>garboardref01_Power.l0 k (numOf x) n (numOf o) i) (numOf (o * x ^ d)):=by
 intro d
 induction d with
 | zero =>
  intro i o hi hl
  refine Ev.step (fun k=>by rw [garboardref01_Power.l0,if_neg (by omega)]) ?_
  rw [Nat.pow_zero,Nat.mul_one]
  exact Ev.now _
 | succ d ih =>
  intro i o hi hl
  have hlm:=len_mul o x
  rw [Nat.succ_mul] at hl
  have hw:wrap64 ((i:Int) + 1) = ((i + 1:Nat):Int):=by
   unfold wrap64
   omega
  refine Ev.step (fun k=>by rw [garboardref01_Power.l0,if_pos (by omega),hw]) (Ev.bind (times_ev o x (by unfold Ok;omega) (by unfold Ok;omega)).2 ?_)
  have:=ih (i + 1) (o * x) (by omega) (by omega)
  rw [Nat.pow_succ,Nat.mul_comm (x ^ d) x,← Nat.mul_assoc]
  exact this
theorem Small1:Ev (fun k=>garboardref01_Small.f k 1) (numOf 1):=Small_ev 1 (by omega)
theorem Small10:Ev (fun k=>garboardref01_Small.f k 10) (numOf 10):=Small_ev 10 (by omega)
theorem Power_ev (x n:Nat) (hx:(numOf x).length≤100000000) (hn:n≤1000):Ev (fun k=>garboardref01_Power.f k (numOf x) n) (numOf (x ^ n)):=by
 have h1:(numOf 1).length = 1:=by rw [numOf_one (by omega) (by omega)];rfl
 have hm:n * (numOf x).length≤1000 * 100000000:=Nat.mul_le_mul hn hx
 have:=power_loop x n hx hn n 0 1 (by omega) (by omega)
 rw [Nat.one_mul] at this
 exact Ev.congr (fun k=>rfl) (Ev.bind Small1 this)
theorem zeros_numOf (q n:Nat) (hn:0 < n):List.replicate q (0:Int) ++ numOf n = numOf (1000000000 ^ q * n):=by
 have hp:=num_numOf n
 have hl:=len_pos hn
 refine num_is ⟨Wd.append (Wd.zeros q) hp.1,fun w hw=>?_⟩ ?_
 ·rw [List.getLast?_append] at hw
  cases h:(numOf n).getLast? with
  | none =>
   rw [List.getLast?_eq_none_iff] at h
   rw [h] at hl
   simp at hl
  | some y =>
   rw [h] at hw
   have e:y = w:=by simpa using hw
   exact e ▸ hp.2 y h
 ·rw [val_append,val_zeros,val_numOf,List.length_replicate,Int.zero_add]
  unfold B
  simp
theorem step_eq (e:Nat):List.replicate (e / 9) (0:Int) ++ numOf (10 ^ (e % 9)) = numOf (10 ^ e):=by
 rw [zeros_numOf _ _ (Nat.pow_pos (by omega)),show 1000000000 = 10 ^ 9 from rfl,← Nat.pow_mul,← Nat.pow_add,Nat.div_add_mod]
theorem floor_inner (A e:Nat) (hA:(numOf A).length≤1000000) (he:e≤100000000)
  (ih:∀ o,o≤rt A→rt A < o + 10 ^ e→Ev (fun k=>garboardref01_Floor.l0 k (numOf A) (numOf o) ((e:Int) - 1)) (numOf (rt A))) :
  ∀ (d o:Nat),rt A - o = d→o≤rt A→Ev (fun k=>garboardref01_Floor.l1 k (numOf A) (numOf o) e (numOf (10 ^ e))) (numOf (rt A)):=by
 obtain ⟨r1,r2⟩:=rt_spec A
 have hr:rt A≤A:=by
  by_cases h0:rt A = 0
  ·omega
  ·exact Nat.le_trans (Nat.le_mul_of_pos_left _ (Nat.pos_of_ne_zero h0)) r1
 have lr:=len_mono hr
 have l10:=len_pow10 e
 have hp:0 < 10 ^ e:=Nat.pow_pos (by omega)
 intro d
 induction d using Nat.strongRecOn with
 | ind d ihd =>
  intro o hd ho
  have lo:=len_mono ho
  have hn:=len_add o (10 ^ e) 100000001 (by omega) (by omega)
  have hm:=len_mul (o + 10 ^ e) (o + 10 ^ e)
  have hw:wrap64 ((e:Int) - 1) = (e:Int) - 1:=by
   unfold wrap64
   omega
  refine Ev.step (fun k=>by rw [garboardref01_Floor.l1]) (Ev.bind (Plus_ev o (10 ^ e) (by unfold Ok;omega) (by unfold Ok;omega) (by omega)) (Ev.bind (times_ev (o + 10 ^ e) (o + 10 ^ e) (by unfold Ok;omega) (by unfold Ok;omega)).2 (Ev.bind (compare_ev ((o + 10 ^ e) * (o + 10 ^ e)) A (by unfold Ok;omega) (by unfold Ok;omega)).2 ?_)))
  by_cases h:rt A < o + 10 ^ e
  ·have hlt:A < (o + 10 ^ e) * (o + 10 ^ e):=Nat.lt_of_lt_of_le r2 (Nat.mul_le_mul h h)
   refine Ev.congr (fun k=>?_) (ih o ho h)
   rw [if_pos (by rw [ord_gt hlt];decide),hw]
  ·have hle:(o + 10 ^ e) * (o + 10 ^ e)≤A:=Nat.le_trans (Nat.mul_le_mul (by omega) (by omega)) r1
   refine Ev.congr (fun k=>if_neg ?_) (ihd (rt A - (o + 10 ^ e)) (by omega) (o + 10 ^ e) rfl (by omega))
   unfold ord
   split
   ·omega
   ·rw [if_neg (by omega)]
    omega
theorem floor_loop (A:Nat) (hA:(numOf A).length≤1000000):∀ (e o:Nat),e≤100000000→o≤rt A→rt A < o + 10 ^ e→Ev (fun k=>garboardref01_Floor.l0 k (numOf A) (numOf o) ((e:Int) - 1)) (numOf (rt A)):=by
 intro e
 induction e with
 | zero =>
  intro o he ho h
  have:o = rt A:=by simp at h;omega
  rw [this]
  exact Ev.step (fun k=>by rw [garboardref01_Floor.l0,if_neg (by omega)]) (Ev.now _)
 | succ e ih =>
  intro o he ho h
  have e1:((e + 1:Nat):Int) - 1 = (e:Int):=by omega
  rw [e1]
  have hw:wrap64 (Int.tdiv (e:Int) 9) = ((e / 9:Nat):Int):=by
   rw [Int.tdiv_eq_ediv_of_nonneg (by omega)]
   unfold wrap64
   omega
  have hm:Int.tmod (e:Int) 9 = ((e % 9:Nat):Int):=by
   rw [Int.tmod_eq_emod_of_nonneg (by omega)]
   rfl
  have h9:e % 9 < 9:=Nat.mod_lt _ (by omega)
  have lt9:10 ^ (e % 9) < 1000000000:=Nat.pow_lt_pow_right (by omega) h9
  have hp9:0 < 10 ^ (e % 9):=Nat.pow_pos (by omega)
  have l1:(numOf (10 ^ (e % 9))).length = 1:=by rw [numOf_one lt9 hp9];rfl
  have l10:(numOf 10).length = 1:=by rw [numOf_one (by omega) (by omega)];rfl
  refine Ev.step (fun k=>by rw [garboardref01_Floor.l0,if_pos (by omega),hw,hm,if_pos (by omega),Int.toNat_natCast,if_pos (by omega),Option.bind_some]) (Ev.bind Small10 (Ev.bind (Power_ev 10 (e % 9) (by omega) (by omega)) (Ev.bind (word_ev (10 ^ (e % 9)) (by omega) (by unfold Ok;omega)) ?_)))
  have hmod:(((10 ^ (e % 9):Nat):Int) % 4294967296) = ((10 ^ (e % 9):Nat):Int):=Int.emod_eq_of_lt (by omega) (by omega)
  rw [hmod]
  refine Ev.bind (Small_ev (10 ^ (e % 9)) (by omega)) ?_
  have hin:=floor_inner A e hA (by omega) (fun o h1 h2=>ih o (by omega) h1 h2) _ o rfl ho
  refine Ev.congr (fun k=>?_) hin
  rw [if_pos (by rw [List.length_replicate,l1];omega),step_eq]
theorem rt_lt_pow (A:Nat):rt A < 0 + 10 ^ (((numOf A).length + 1) / 2 * 9 + 1):=by
 obtain ⟨r1,r2⟩:=rt_spec A
 have h1:=lt_len A
 have h2:A < 1000000000 ^ (numOf A).length:=by
  have h3:(A:Int) < ((1000000000 ^ (numOf A).length:Nat):Int):=by
   rw [Int.natCast_pow]
   exact h1
  omega
 have h3:1000000000 ^ (numOf A).length≤10 ^ (((numOf A).length + 1) / 2 * 9) * 10 ^ (((numOf A).length + 1) / 2 * 9):=by
  rw [show 1000000000 = 10 ^ 9 from rfl,← Nat.pow_mul,← Nat.pow_add]
  exact Nat.pow_le_pow_right (by omega) (by omega)
 have h4:rt A < 10 ^ (((numOf A).length + 1) / 2 * 9):=by
  by_cases e:rt A < 10 ^ (((numOf A).length + 1) / 2 * 9)
  ·exact e
  ·have:=Nat.mul_le_mul (Nat.le_of_not_lt e) (Nat.le_of_not_lt e)
   omega
 rw [Nat.zero_add,Nat.pow_succ]
 omega
theorem Floor_ev (A:Nat) (hA:(numOf A).length≤1000000):Ev (fun k=>garboardref01_Floor.f k (numOf A)) (numOf (rt A)):=by
 have h:=floor_loop A hA (((numOf A).length + 1) / 2 * 9 + 1) 0 (by omega) (by omega) (rt_lt_pow A)
 rw [numOf_zero] at h
 refine Ev.congr (fun k=>?_) h
 unfold garboardref01_Floor.f
 have a1:wrap64 (((numOf A).length:Int) + 1) = (((numOf A).length + 1:Nat):Int):=by
  unfold wrap64
  omega
 have a2:wrap64 (Int.tdiv (((numOf A).length + 1:Nat):Int) 2) = ((((numOf A).length + 1) / 2:Nat):Int):=by
  rw [Int.tdiv_eq_ediv_of_nonneg (by omega)]
  unfold wrap64
  omega
 have a3:wrap64 (((((numOf A).length + 1) / 2:Nat):Int) * 9) = ((((numOf A).length + 1) / 2 * 9 + 1:Nat):Int) - 1:=by
  unfold wrap64
  omega
 rw [a1,a2,a3]
theorem rt_len (A:Nat):(numOf (rt A)).length≤(numOf A).length:=by
 obtain ⟨r1,r2⟩:=rt_spec A
 refine len_mono ?_
 by_cases h0:rt A = 0
 ·omega
 ·exact Nat.le_trans (Nat.le_mul_of_pos_left _ (Nat.pos_of_ne_zero h0)) r1
theorem rRoot_ev (a:ByteArray) (ha:Sm a):Ev (fun k=>garboardref01_Root.f k a) (rootV a):=by
 have hs:=ha.sh
 unfold Sh at hs
 refine Ev.congr (fun k=>rfl) (Ev.bind (rValid_ev a (by omega)) ?_)
 unfold rootV
 by_cases h:nv a = true
 ·rw [if_pos h]
  have hl:(numOf (nat a)).length≤1000:=Nat.le_trans (nat_len a h) ha
  have hr:=rt_len (nat a)
  exact Ev.congr (fun k=>if_pos h) (Ev.bind (From_ev a (by omega) h) (Ev.bind (Floor_ev (nat a) (by omega)) (Ev.bind (To_ev _ (by omega)) (Ev.now _))))
 ·rw [if_neg h]
  exact Ev.congr (fun k=>if_neg h) (Ev.now _)
theorem rPow_ev (a:ByteArray) (n:Int) (ha:Sm a):Ev (fun k=>garboardref01_Pow.f k a n) (powV a n):=by
 have hs:=ha.sh
 unfold Sh at hs
 refine Ev.congr (fun k=>rfl) (Ev.bind (rValid_ev a (by omega)) ?_)
 unfold powV
 by_cases h:nv a = true
 ·rw [if_pos h]
  refine Ev.congr (fun k=>if_pos h) ?_
  by_cases h1:n < 0
  ·rw [if_pos h1]
   exact Ev.congr (fun k=>if_pos h1) (Ev.step (fun k=>by rw [garboardref01_Pow.j0,if_pos rfl]) (Ev.now _))
  ·rw [if_neg h1]
   refine Ev.congr (fun k=>if_neg h1) ?_
   by_cases h2:n > 64
   ·rw [if_pos h2,decide_eq_true h2]
    exact Ev.step (fun k=>by rw [garboardref01_Pow.j0,if_pos rfl]) (Ev.now _)
   ·rw [if_neg h2,decide_eq_false h2]
    obtain ⟨m,rfl⟩:=Int.eq_ofNat_of_zero_le (show 0≤n by omega)
    have hl:(numOf (nat a)).length≤1000:=Nat.le_trans (nat_len a h) ha
    have hz:(numOf (nat a ^ m)).length≤m * (numOf (nat a)).length + 1:=by
     clear h1 h2
     induction m with
     | zero=>rw [Nat.pow_zero,numOf_one (by omega) (by omega)];simp
     | succ m ih =>
      have:=len_mul (nat a ^ m) (nat a)
      rw [Nat.pow_succ,Nat.succ_mul]
      omega
    have hz2:m * (numOf (nat a)).length≤64 * 1000:=Nat.mul_le_mul (by omega) hl
    rw [Int.toNat_natCast]
    refine Ev.step (fun k=>by rw [garboardref01_Pow.j0,if_neg (by simp)]) (Ev.bind (From_ev a (by omega) h) (Ev.bind (Power_ev (nat a) m (by omega) (by omega)) ?_))
    exact Ev.bind (To_ev (nat a ^ m) (by omega)) (Ev.now _)
 ·rw [if_neg h]
  exact Ev.congr (fun k=>if_neg h) (Ev.now _)
end Go.Proofs.YtaopmkcghancmaaDoor.Pr
namespace Go.Proofs.YtaopmkcghancmaaDoor.Pr
open Go.RowKit Go.Proofs.YtaopmkcghancmaaDoorW.PrintWords Go.Proofs.YtaopmkcghancmaaDoorW.PrintLast Go.Proofs.YtaopmkcghancmaaDoorW.PrintMore
attribute [local go_sem] max2_int min2_int max_two min_two max_three min_three max_four min_four
set_option linter.unusedVariables false
set_option linter.unusedSimpArgs false
mutual
def garboardlaw01_NaturalPowers.j0:Nat→ByteArray→Int→Bool→Option (Bool)
 | 0,_,_,_=>none
 | k + 1,x0,x1,x19=>if x19 = true then ((garboardlaw01_awake.f k).bind fun t575=>(some t575)) else ((natural_Root.f k x0).bind fun bt576=>((garboardref01_Root.f k x0).bind fun bt578=>(if bt576.1.toList = bt578.1.toList then (if bt576.2 = bt578.2 then (garboardlaw01_NaturalPowers.j1 k x0 x1 bt576.1 bt576.2 bt578.1 bt578.2 (decide ((x0.size:Int) > 30))) else (garboardlaw01_NaturalPowers.j1 k x0 x1 bt576.1 bt576.2 bt578.1 bt578.2 true)) else (garboardlaw01_NaturalPowers.j1 k x0 x1 bt576.1 bt576.2 bt578.1 bt578.2 true))))
def garboardlaw01_NaturalPowers.j1:Nat→ByteArray→Int→ByteArray→Int→ByteArray→Int→Bool→Option (Bool)
 | 0,_,_,_,_,_,_,_=>none
 | k + 1,x0,x1,x5,x6,x7,x8,x43=>if x43 = true then (if x5.toList = x7.toList then (some (x6 == x8)) else (some false)) else ((natural_Pow.f k x0 x1).bind fun bt580=>((garboardref01_Pow.f k x0 x1).bind fun bt582=>(if bt580.1.toList = bt582.1.toList then (some (bt580.2 == bt582.2)) else (some false))))
end
def garboardlaw01_NaturalPowers.f (k:Nat) (a0:ByteArray) (a1:Int):Option (Bool):=(garboardlaw01_awake.f k).bind fun t570=>(if t570 = true then ((garboardlaw01_long.f k (([a0]:List ByteArray))).bind fun t574=>(garboardlaw01_NaturalPowers.j0 k a0 a1 t574)) else (garboardlaw01_NaturalPowers.j0 k a0 a1 true))
set_option maxHeartbeats 8000000 in
set_option maxRecDepth 100000 in
theorem garboardlaw01_NaturalPowers.calls (k:Nat) (a0:ByteArray) (a1:Int) (r:Bool) (w:World) (hL:LaidW w) (h:garboardlaw01_NaturalPowers.f k a0 a1 = some r) :
  Calls Tryd.prog 6 #[.string a0,.int .i64 a1] w fun e w'=>e = .returned (.bool r)∧Below w.heap.size w w':=by
 have HB:=Aside0.mk (Below.refl w.heap.size w)
 have HLW:=Aside0.mk hL
 clear hL
 have H:((garboardlaw01_awake.f k).bind fun t570=>(if t570 = true then ((garboardlaw01_long.f k (([a0]:List ByteArray))).bind fun t574=>(garboardlaw01_NaturalPowers.j0 k a0 a1 t574)) else (garboardlaw01_NaturalPowers.j0 k a0 a1 true))) = some r:=h
 clear h
 have HC3:=Aside0.mk H
 clear H
 go_enter Tryd.func6,Tryd.ntmps6
 go_upto_region 1 with (fail)
 go_cut [19] (fun v19 wc=>∃ (kq:Nat) (x19_2:Bool),v19 = .bool x19_2∧Aside0 (garboardlaw01_NaturalPowers.j0 kq a0 a1 x19_2 = some r)∧Aside0 (kq≤k)∧Aside0 (Below w.heap.size w wc))
 case first =>
  have H:=HC3.out
  clear HC3
  replace H:=Option.bind_eq_some_iff.mp H
  obtain ⟨t570,A40,H⟩:=H
  replace H:(if t570 = true then ((garboardlaw01_long.f k (([a0]:List ByteArray))).bind fun t574=>(garboardlaw01_NaturalPowers.j0 k a0 a1 t574)) else (garboardlaw01_NaturalPowers.j0 k a0 a1 true)) = some r:=H
  have A4:=Aside0.mk A40
  clear A40
  by_cases c5:t570 = true
  ·subst c5
   have H1:((garboardlaw01_long.f k (([a0]:List ByteArray))).bind fun t574=>(garboardlaw01_NaturalPowers.j0 k a0 a1 t574)) = some r:=by rw [if_pos rfl] at H;exact H
   clear H
   have H:=H1
   clear H1
   obtain ⟨y571,hy571⟩:∃ y_:List ByteArray,y_ = (([a0]:List ByteArray)):=⟨_,rfl⟩
   replace H:((garboardlaw01_long.f k y571).bind fun t574=>(garboardlaw01_NaturalPowers.j0 k a0 a1 t574)) = some r:=by first|(rw [hy571];with_reducible exact H)|(have H2_:=(Option.bind_some _ _).symm.trans H;rw [hy571];with_reducible exact H2_)|(have H2_:=(Option.bind_some _ _).symm.trans H;with_reducible exact H2_)|with_reducible exact H|(rw [hy571];exact H)|exact H
   have Ny571:=Aside0.mk hy571
   clear hy571
   replace H:=Option.bind_eq_some_iff.mp H
   obtain ⟨t574,A60,H⟩:=H
   replace H:(garboardlaw01_NaturalPowers.j0 k a0 a1 t574) = some r:=H
   have A6:=Aside0.mk A60
   clear A60
   have H':=Aside0.mk H
   clear H
   go_wp2_with (first|((with_reducible refine gate_callee (f:=11) rfl ?_);refine goesL_ (some 13) rfl rfl Tryd.func11 (by kernel_rfl) rfl #[] rfl (by (try simp only [List.map_toArray,List.map_cons,List.map_nil]);first|done|rfl|(simp only [List.length_drop,List.length_take];rfl)) ?_;(with_reducible refine (garboardlaw01_awake.calls k  true _ ?side1 A4.out).mono ?_);(case side1=>exact HLW.out.below (by repeat (first|(with_reducible first|exact HB.out|apply below_alloc|apply pw_below_drewN|apply below_drew1)|exact HB.out)));rintro e w7 ⟨rfl,hb⟩;refine ⟨_,rfl,?_⟩;have n0_:=Aside0.mk (below_step (by repeat (first|(with_reducible first|exact HB.out|apply below_alloc|apply pw_below_drewN|apply below_drew1)|exact HB.out)) hb);clear HB;have HB:=n0_;clear n0_;(try clear hb);(try clear hb2);(try clear hk);(try clear hi))|((with_reducible refine gate_dst (N:=17) rfl ?_);(try (refine gate_guard (by rfl) ?_;dsimp only));refine Kd.R_lit Kd.string _ 9 ?hg (N:=17) ?hd (xs:=([a0]:List ByteArray)) (inner:=[.string a0]) (ok:=fun _=>True) (okp:=fun _=>True) ?hr ?hp (fun _ hk=>hk) trivial (Below.refl _ _) (Nat.le_refl _) (by simp) ?_;(case hd=>rfl);(case hg=>rfl);(case hr=>first|(go_simp;done)|(go_simp;rfl));(case hp=>exact (Reps.one (show Kd.M Kd.string _ _ _ a0 [.string a0] from rfl) (Reps.none _ _)));intro v572 w8 ho9 hb hg_ hnew_;clear hg_ hnew_;(first|rw [← Ny571.out] at ho9|(simp only [Int.reduceToNat] at ho9;rw [← Ny571.out] at ho9));have n0_:=Aside0.mk (Kd.R_lower ho9 (below_size (by repeat (first|(with_reducible first|exact HB.out|apply below_alloc|apply pw_below_drewN|apply below_drew1)|exact HB.out))));have n1_:=Aside0.mk (below_step (by repeat (first|(with_reducible first|exact HB.out|apply below_alloc|apply pw_below_drewN|apply below_drew1)|exact HB.out)) hb);clear HB;have HO573:=n0_;have HB:=n1_;clear n0_ n1_;clear hb ho9;obtain ⟨Ao10,co10,eo10⟩:=Kd.R_slice HO573.out;subst eo10)|(go_at_call 12;(with_reducible refine (garboardlaw01_long.calls k _ _ y571 t574 _ ?side1 ?side2 A6.out).mono ?_);(case side1=>repeat (first|exact (Kd.R_reads' HO573.out).2.2|(with_reducible refine Kd.C_alloc ?_ _)|(with_reducible refine Kd.C_drewN ?_ _)|(with_reducible refine Kd.C_drew ?_)));(case side2=>exact (Kd.R_reads' HO573.out).2.1);rintro e w' ⟨rfl,⟨nd,rfl⟩⟩))
   go_meet
   case rel=>exact ⟨_,(t574),(by first|rfl|(simp;done)|(simp [*];done)),H',⟨by first|omega|exact Nat.le_refl _⟩,⟨by repeat (first|(with_reducible first|exact HB.out|apply below_alloc|apply pw_below_drewN|apply below_drew1)|exact HB.out)⟩⟩
  ·replace c5:=Bool.eq_false_iff.mpr c5
   subst c5
   have H1:(garboardlaw01_NaturalPowers.j0 k a0 a1 true) = some r:=by rw [if_neg (show ¬ (false = true) by decide)] at H;exact H
   clear H
   have H:=H1
   clear H1
   have H':=Aside0.mk H
   clear H
   go_wp2_with (first|((with_reducible refine gate_callee (f:=11) rfl ?_);refine goesL_ (some 13) rfl rfl Tryd.func11 (by kernel_rfl) rfl #[] rfl (by (try simp only [List.map_toArray,List.map_cons,List.map_nil]);first|done|rfl|(simp only [List.length_drop,List.length_take];rfl)) ?_;(with_reducible refine (garboardlaw01_awake.calls k  false _ ?side1 A4.out).mono ?_);(case side1=>exact HLW.out.below (by repeat (first|(with_reducible first|exact HB.out|apply below_alloc|apply pw_below_drewN|apply below_drew1)|exact HB.out)));rintro e w11 ⟨rfl,hb⟩;refine ⟨_,rfl,?_⟩;have n0_:=Aside0.mk (below_step (by repeat (first|(with_reducible first|exact HB.out|apply below_alloc|apply pw_below_drewN|apply below_drew1)|exact HB.out)) hb);clear HB;have HB:=n0_;clear n0_;(try clear hb);(try clear hb2);(try clear hk);(try clear hi)))
   go_meet
   case rel=>exact ⟨_,(true),(by first|rfl|(simp;done)|(simp [*];done)),H',⟨by first|omega|exact Nat.le_refl _⟩,⟨by repeat (first|(with_reducible first|exact HB.out|apply below_alloc|apply pw_below_drewN|apply below_drew1)|exact HB.out)⟩⟩
 case rest =>
  clear HC3
  try clear c1
  try clear p2
  try clear c5
  try clear c6
  try clear c11
  obtain ⟨kq,x19_2,rfl,HA,HJ2,HB⟩:=hcut
  cases kq with
  | zero=>exact absurd HA.out (by simp [garboardlaw01_NaturalPowers.j0])
  | succ kj2 =>
   have H:=HA.out
   clear HA
   simp only [garboardlaw01_NaturalPowers.j0] at H
   by_cases c12:x19_2 = true
   ·subst c12
    have H1:((garboardlaw01_awake.f kj2).bind fun t575=>(some t575)) = some r:=by rw [if_pos rfl] at H;exact H
    clear H
    have H:=H1
    clear H1
    replace H:=Option.bind_eq_some_iff.mp H
    obtain ⟨t575,A130,H⟩:=H
    replace H:(some t575) = some r:=H
    have A13:=Aside0.mk A130
    clear A130
    obtain rfl:=Option.some.inj H
    go_wp2_with (first|((with_reducible refine gate_callee (f:=11) rfl ?_);refine goesL_ (some 20) rfl rfl Tryd.func11 (by kernel_rfl) rfl #[] rfl (by (try simp only [List.map_toArray,List.map_cons,List.map_nil]);first|done|rfl|(simp only [List.length_drop,List.length_take];rfl)) ?_;(with_reducible refine (garboardlaw01_awake.calls kj2  t575 _ ?side1 A13.out).mono ?_);(case side1=>exact HLW.out.below (by repeat (first|(with_reducible first|exact HB.out|apply below_alloc|apply pw_below_drewN|apply below_drew1)|exact HB.out)));rintro e w14 ⟨rfl,hb⟩;refine ⟨_,rfl,?_⟩;have n0_:=Aside0.mk (below_step (by repeat (first|(with_reducible first|exact HB.out|apply below_alloc|apply pw_below_drewN|apply below_drew1)|exact HB.out)) hb);clear HB;have HB:=n0_;clear n0_;(try clear hb);(try clear hb2);(try clear hk);(try clear hi)))
    go_ret
    exact ⟨by first|rfl|(simp [errW_none,errW_some]<;>rfl)|(simp [*,errW_none,errW_some]<;>rfl),by repeat (first|(with_reducible first|exact HB.out|apply below_alloc|apply pw_below_drewN|apply below_drew1)|exact HB.out)⟩
   ·replace c12:=Bool.eq_false_iff.mpr c12
    subst c12
    have H1:((natural_Root.f kj2 a0).bind fun bt576=>((garboardref01_Root.f kj2 a0).bind fun bt578=>(if bt576.1.toList = bt578.1.toList then (if bt576.2 = bt578.2 then (garboardlaw01_NaturalPowers.j1 kj2 a0 a1 bt576.1 bt576.2 bt578.1 bt578.2 (decide ((a0.size:Int) > 30))) else (garboardlaw01_NaturalPowers.j1 kj2 a0 a1 bt576.1 bt576.2 bt578.1 bt578.2 true)) else (garboardlaw01_NaturalPowers.j1 kj2 a0 a1 bt576.1 bt576.2 bt578.1 bt578.2 true)))) = some r:=by rw [if_neg (show ¬ (false = true) by decide)] at H;exact H
    clear H
    have H:=H1
    clear H1
    replace H:=Option.bind_eq_some_iff.mp H
    obtain ⟨⟨t576,t577⟩,A150,H⟩:=H
    replace H:((garboardref01_Root.f kj2 a0).bind fun bt578=>(if t576.toList = bt578.1.toList then (if t577 = bt578.2 then (garboardlaw01_NaturalPowers.j1 kj2 a0 a1 t576 t577 bt578.1 bt578.2 (decide ((a0.size:Int) > 30))) else (garboardlaw01_NaturalPowers.j1 kj2 a0 a1 t576 t577 bt578.1 bt578.2 true)) else (garboardlaw01_NaturalPowers.j1 kj2 a0 a1 t576 t577 bt578.1 bt578.2 true))) = some r:=H
    have A15:=Aside0.mk A150
    clear A150
    replace H:=Option.bind_eq_some_iff.mp H
    obtain ⟨⟨t578,t579⟩,A160,H⟩:=H
    replace H:(if t576.toList = t578.toList then (if t577 = t579 then (garboardlaw01_NaturalPowers.j1 kj2 a0 a1 t576 t577 t578 t579 (decide ((a0.size:Int) > 30))) else (garboardlaw01_NaturalPowers.j1 kj2 a0 a1 t576 t577 t578 t579 true)) else (garboardlaw01_NaturalPowers.j1 kj2 a0 a1 t576 t577 t578 t579 true)) = some r:=H
    have A16:=Aside0.mk A160
    clear A160
    have HC17:=Aside0.mk H
    clear H
    go_upto_region 5 with (first|((with_reducible refine gate_callee (f:=27) rfl ?_);refine goesL_ (some 23) rfl rfl Tryd.func27 (by kernel_rfl) rfl #[.string a0] rfl (by (try simp only [List.map_toArray,List.map_cons,List.map_nil]);first|done|rfl|(simp only [List.length_drop,List.length_take];rfl)) ?_;(with_reducible refine (natural_Root.calls kj2 a0 t576 t577 _ ?side1 A15.out).mono ?_);(case side1=>exact HLW.out.below (by repeat (first|(with_reducible first|exact HB.out|apply below_alloc|apply pw_below_drewN|apply below_drew1)|exact HB.out)));rintro e w18 ⟨rfl,hb⟩;refine ⟨_,rfl,?_⟩;have n0_:=Aside0.mk (below_step (by repeat (first|(with_reducible first|exact HB.out|apply below_alloc|apply pw_below_drewN|apply below_drew1)|exact HB.out)) hb);clear HB;have HB:=n0_;clear n0_;(try clear hb);(try clear hb2);(try clear hk);(try clear hi))|((with_reducible refine gate_callee (f:=28) rfl ?_);refine goesL_ (some 28) rfl rfl Tryd.func28 (by kernel_rfl) rfl #[.string a0] rfl (by (try simp only [List.map_toArray,List.map_cons,List.map_nil]);first|done|rfl|(simp only [List.length_drop,List.length_take];rfl)) ?_;(with_reducible refine (garboardref01_Root.calls kj2 a0 t578 t579 _ A16.out).mono ?_);rintro e w19 ⟨rfl,hb⟩;refine ⟨_,rfl,?_⟩;have n0_:=Aside0.mk (below_step (by repeat (first|(with_reducible first|exact HB.out|apply below_alloc|apply pw_below_drewN|apply below_drew1)|exact HB.out)) hb);clear HB;have HB:=n0_;clear n0_;(try clear hb);(try clear hb2);(try clear hk);(try clear hi)))
    (try simp only [Act.put,List.setIfInBounds_toArray,List.set_cons_zero,List.set_cons_succ])
    go_cut [43] (fun v43 wc=>∃ (kq:Nat) (x43_16:Bool),v43 = .bool x43_16∧Aside0 (garboardlaw01_NaturalPowers.j1 kq a0 a1 t576 t577 t578 t579 x43_16 = some r)∧Aside0 (kq≤kj2)∧Aside0 (Below w.heap.size w wc))
    case first =>
     have H:=HC17.out
     clear HC17
     by_cases c20:t576.toList = t578.toList
     ·rw [if_pos c20] at H
      have c20b0:(t576.toList == t578.toList) = true:=beq_iff_eq.mpr c20
      have c20b1:(t576.toList != t578.toList) = false:=bne_eq_false_iff_eq.mpr c20
      clear c20
      (first|rw [c20b0]|(simp only [i64_w,i32_w];rw [c20b0])|skip)
      by_cases c21:t577 = t579
      ·rw [if_pos c21] at H
       have c21b0:(t577 == t579) = true:=beq_iff_eq.mpr c21
       have c21b1:(t577 != t579) = false:=bne_eq_false_iff_eq.mpr c21
       clear c21
       have H':=Aside0.mk H
       clear H
       go_wp2
       go_meet
       case rel=>exact ⟨_,(decide ((a0.size:Int) > 30)),(by first|rfl|(simp;done)|(simp [*];done)),H',⟨by have:=HJ2.out;first|omega|exact Nat.le_refl _⟩,⟨by repeat (first|(with_reducible first|exact HB.out|apply below_alloc|apply pw_below_drewN|apply below_drew1)|exact HB.out)⟩⟩
      ·rw [if_neg c21] at H
       have c21b0:(t577 == t579) = false:=beq_eq_false_iff_ne.mpr c21
       have c21b1:(t577 != t579) = true:=bne_iff_ne.mpr c21
       have H':=Aside0.mk H
       clear H
       go_wp2
       go_meet
       case rel=>exact ⟨_,(true),(by first|rfl|(simp;done)|(simp [*];done)),H',⟨by have:=HJ2.out;first|omega|exact Nat.le_refl _⟩,⟨by repeat (first|(with_reducible first|exact HB.out|apply below_alloc|apply pw_below_drewN|apply below_drew1)|exact HB.out)⟩⟩
     ·rw [if_neg c20] at H
      have c20b0:(t576.toList == t578.toList) = false:=beq_eq_false_iff_ne.mpr c20
      have c20b1:(t576.toList != t578.toList) = true:=bne_iff_ne.mpr c20
      (first|rw [c20b0]|(simp only [i64_w,i32_w];rw [c20b0])|skip)
      have H':=Aside0.mk H
      clear H
      go_wp2
      go_meet
      case rel=>exact ⟨_,(true),(by first|rfl|(simp;done)|(simp [*];done)),H',⟨by have:=HJ2.out;first|omega|exact Nat.le_refl _⟩,⟨by repeat (first|(with_reducible first|exact HB.out|apply below_alloc|apply pw_below_drewN|apply below_drew1)|exact HB.out)⟩⟩
    case rest =>
     clear HC17
     try clear c1
     try clear c2
     try clear p2
     try clear c5
     try clear c6
     try clear c11
     try clear c12
     try clear c20
     try clear c20b0
     try clear c20b1
     try clear c21
     try clear c21b0
     try clear c21b1
     try clear p2
     obtain ⟨kq,x43_16,rfl,HA,HJ16,HB⟩:=hcut
     cases kq with
     | zero=>exact absurd HA.out (by simp [garboardlaw01_NaturalPowers.j1])
     | succ kj16 =>
      have H:=HA.out
      clear HA
      simp only [garboardlaw01_NaturalPowers.j1] at H
      by_cases c22:x43_16 = true
      ·subst c22
       have H1:(if t576.toList = t578.toList then (some (t577 == t579)) else (some false)) = some r:=by rw [if_pos rfl] at H;exact H
       clear H
       have H:=H1
       clear H1
       by_cases c23:t576.toList = t578.toList
       ·rw [if_pos c23] at H
        have c23b0:(t576.toList == t578.toList) = true:=beq_iff_eq.mpr c23
        have c23b1:(t576.toList != t578.toList) = false:=bne_eq_false_iff_eq.mpr c23
        clear c23
        obtain rfl:=Option.some.inj H
        go_wp2
        go_ret
        exact ⟨by first|rfl|(simp [errW_none,errW_some]<;>rfl)|(simp [*,errW_none,errW_some]<;>rfl),by repeat (first|(with_reducible first|exact HB.out|apply below_alloc|apply pw_below_drewN|apply below_drew1)|exact HB.out)⟩
       ·rw [if_neg c23] at H
        have c23b0:(t576.toList == t578.toList) = false:=beq_eq_false_iff_ne.mpr c23
        have c23b1:(t576.toList != t578.toList) = true:=bne_iff_ne.mpr c23
        obtain rfl:=Option.some.inj H
        go_wp2
        go_ret
        exact ⟨by first|rfl|(simp [errW_none,errW_some]<;>rfl)|(simp [*,errW_none,errW_some]<;>rfl),by repeat (first|(with_reducible first|exact HB.out|apply below_alloc|apply pw_below_drewN|apply below_drew1)|exact HB.out)⟩
      ·replace c22:=Bool.eq_false_iff.mpr c22
       subst c22
       have H1:((natural_Pow.f kj16 a0 a1).bind fun bt580=>((garboardref01_Pow.f kj16 a0 a1).bind fun bt582=>(if bt580.1.toList = bt582.1.toList then (some (bt580.2 == bt582.2)) else (some false)))) = some r:=by rw [if_neg (show ¬ (false = true) by decide)] at H;exact H
       clear H
       have H:=H1
       clear H1
       replace H:=Option.bind_eq_some_iff.mp H
       obtain ⟨⟨t580,t581⟩,A240,H⟩:=H
       replace H:((garboardref01_Pow.f kj16 a0 a1).bind fun bt582=>(if t580.toList = bt582.1.toList then (some (t581 == bt582.2)) else (some false))) = some r:=H
       have A24:=Aside0.mk A240
       clear A240
       replace H:=Option.bind_eq_some_iff.mp H
       obtain ⟨⟨t582,t583⟩,A250,H⟩:=H
       replace H:(if t580.toList = t582.toList then (some (t581 == t583)) else (some false)) = some r:=H
       have A25:=Aside0.mk A250
       clear A250
       by_cases c26:t580.toList = t582.toList
       ·rw [if_pos c26] at H
        have c26b0:(t580.toList == t582.toList) = true:=beq_iff_eq.mpr c26
        have c26b1:(t580.toList != t582.toList) = false:=bne_eq_false_iff_eq.mpr c26
        clear c26
        obtain rfl:=Option.some.inj H
        go_wp2_with (first|((with_reducible refine gate_callee (f:=29) rfl ?_);refine goesL_ (some 55) rfl rfl Tryd.func29 (by kernel_rfl) rfl #[.string a0,.int .i64 a1] rfl (by (try simp only [List.map_toArray,List.map_cons,List.map_nil]);first|done|rfl|(simp only [List.length_drop,List.length_take];rfl)) ?_;(with_reducible refine (natural_Pow.calls kj16 a0 a1 t580 t581 _ ?side1 A24.out).mono ?_);(case side1=>exact HLW.out.below (by repeat (first|(with_reducible first|exact HB.out|apply below_alloc|apply pw_below_drewN|apply below_drew1)|exact HB.out)));rintro e w27 ⟨rfl,hb⟩;refine ⟨_,rfl,?_⟩;have n0_:=Aside0.mk (below_step (by repeat (first|(with_reducible first|exact HB.out|apply below_alloc|apply pw_below_drewN|apply below_drew1)|exact HB.out)) hb);clear HB;have HB:=n0_;clear n0_;(try clear hb);(try clear hb2);(try clear hk);(try clear hi))|((with_reducible refine gate_callee (f:=30) rfl ?_);refine goesL_ (some 61) rfl rfl Tryd.func30 (by kernel_rfl) rfl #[.string a0,.int .i64 a1] rfl (by (try simp only [List.map_toArray,List.map_cons,List.map_nil]);first|done|rfl|(simp only [List.length_drop,List.length_take];rfl)) ?_;(with_reducible refine (garboardref01_Pow.calls kj16 a0 a1 t582 t583 _ A25.out).mono ?_);rintro e w28 ⟨rfl,hb⟩;refine ⟨_,rfl,?_⟩;have n0_:=Aside0.mk (below_step (by repeat (first|(with_reducible first|exact HB.out|apply below_alloc|apply pw_below_drewN|apply below_drew1)|exact HB.out)) hb);clear HB;have HB:=n0_;clear n0_;(try clear hb);(try clear hb2);(try clear hk);(try clear hi)))
        go_ret
        exact ⟨by first|rfl|(simp [errW_none,errW_some]<;>rfl)|(simp [*,errW_none,errW_some]<;>rfl),by repeat (first|(with_reducible first|exact HB.out|apply below_alloc|apply pw_below_drewN|apply below_drew1)|exact HB.out)⟩
       ·rw [if_neg c26] at H
        have c26b0:(t580.toList == t582.toList) = false:=beq_eq_false_iff_ne.mpr c26
        have c26b1:(t580.toList != t582.toList) = true:=bne_iff_ne.mpr c26
        obtain rfl:=Option.some.inj H
        go_wp2_with (first|((with_reducible refine gate_callee (f:=29) rfl ?_);refine goesL_ (some 55) rfl rfl Tryd.func29 (by kernel_rfl) rfl #[.string a0,.int .i64 a1] rfl (by (try simp only [List.map_toArray,List.map_cons,List.map_nil]);first|done|rfl|(simp only [List.length_drop,List.length_take];rfl)) ?_;(with_reducible refine (natural_Pow.calls kj16 a0 a1 t580 t581 _ ?side1 A24.out).mono ?_);(case side1=>exact HLW.out.below (by repeat (first|(with_reducible first|exact HB.out|apply below_alloc|apply pw_below_drewN|apply below_drew1)|exact HB.out)));rintro e w29 ⟨rfl,hb⟩;refine ⟨_,rfl,?_⟩;have n0_:=Aside0.mk (below_step (by repeat (first|(with_reducible first|exact HB.out|apply below_alloc|apply pw_below_drewN|apply below_drew1)|exact HB.out)) hb);clear HB;have HB:=n0_;clear n0_;(try clear hb);(try clear hb2);(try clear hk);(try clear hi))|((with_reducible refine gate_callee (f:=30) rfl ?_);refine goesL_ (some 61) rfl rfl Tryd.func30 (by kernel_rfl) rfl #[.string a0,.int .i64 a1] rfl (by (try simp only [List.map_toArray,List.map_cons,List.map_nil]);first|done|rfl|(simp only [List.length_drop,List.length_take];rfl)) ?_;(with_reducible refine (garboardref01_Pow.calls kj16 a0 a1 t582 t583 _ A25.out).mono ?_);rintro e w30 ⟨rfl,hb⟩;refine ⟨_,rfl,?_⟩;have n0_:=Aside0.mk (below_step (by repeat (first|(with_reducible first|exact HB.out|apply below_alloc|apply pw_below_drewN|apply below_drew1)|exact HB.out)) hb);clear HB;have HB:=n0_;clear n0_;(try clear hb);(try clear hb2);(try clear hk);(try clear hi)))
        go_ret
        exact ⟨by first|rfl|(simp [errW_none,errW_some]<;>rfl)|(simp [*,errW_none,errW_some]<;>rfl),by repeat (first|(with_reducible first|exact HB.out|apply below_alloc|apply pw_below_drewN|apply below_drew1)|exact HB.out)⟩
end Go.Proofs.YtaopmkcghancmaaDoor.Pr
set_option linter.unusedVariables false
set_option linter.unusedSimpArgs false
namespace Go.Proofs.YtaopmkcghancmaaDoor.Pr
open Go.RowKit Go.Lib Go.Proofs.YtaopmkcghancmaaDoorW.PrintWords Go.Proofs.YtaopmkcghancmaaDoorW.PrintLast Go.Proofs.YtaopmkcghancmaaDoorW.PrintMore Go.Proofs.YtaopmkcghancmaaDoor.NatTh
theorem Powers_law (a:ByteArray) (n:Int):Ev (fun k=>garboardlaw01_NaturalPowers.f k a n) true:=by
 refine law_head [a] (by simp) (fun k t=>garboardlaw01_NaturalPowers.j0 k a n t) _ (fun k=>rfl) (fun k=>by rw [garboardlaw01_NaturalPowers.j0,if_pos rfl]) (fun hs=>?_)
 have ha:=hs a (by simp)
 have sa:=sm120 ha
 refine Ev.step (fun k=>by rw [garboardlaw01_NaturalPowers.j0,if_neg (by simp)]) (Ev.bind (Root_ev a sa) (Ev.bind (rRoot_ev a sa) ?_))
 refine Ev.congr (fun k=>(if_pos rfl).trans (if_pos rfl)) ?_
 cases hb:decide ((a.size:Int) > 30) with
 | true=>exact Ev.step (fun k=>by rw [garboardlaw01_NaturalPowers.j1,if_pos rfl,if_pos rfl,beq_self_eq_true]) (Ev.now _)
 | false =>
  refine Ev.step (fun k=>by rw [garboardlaw01_NaturalPowers.j1,if_neg (by simp)]) (Ev.bind (Pow_ev a n sa) (Ev.bind (rPow_ev a n sa) ?_))
  refine Ev.congr (fun k=>?_) (Ev.now _)
  rw [if_pos rfl,beq_self_eq_true]
end Go.Proofs.YtaopmkcghancmaaDoor.Pr
namespace Go.Proofs.YtaopmkcghancmaaDoor.Pr
set_option linter.unusedVariables false
set_option linter.unusedSimpArgs false
open Go.ChangeShapes Go.WideShapes Go.ChangeAt Go.RowKit Go.Proofs.YtaopmkcghancmaaDoorW.PrintWords
set_option maxRecDepth 100000 in
theorem open_i64_naturalPowers {H:Type} {enc:TypeId × Value→H} {W:World} {r:Reach} {b0:Nat} {v:Value} {d:DataW H} {p:List MemPlace} (hv:Value.okWide Tryd.prog W r b0 3 v) (h:DataW.Trod enc Tryd.prog W 0 (fun _=>true) true 3 v d p):∃ s,v = .int .i64 s∧(Lit.int .i64 s).wf = true:=by
 obtain ⟨s,e,_,_,hw⟩:=open_int Tryd.underlying3 hv h
 exact ⟨s,e,hw⟩
set_option maxRecDepth 100000 in
theorem naturalPowers_lifted (os:Os) (started:os.Started) (H:Type) (enc:TypeId × Value→H) :
  ReturnsInHanded {} Tryd.checked os 6 .any (fun w args=>(Rows.naturalPowersSpec.pre enc Tryd.prog Tryd.f6 [] false w args∧laidMetH Tryd.prog laid5 w)∧sizedMet enc Tryd.prog Tryd.f6 (OpenSpec.ofChange Rows.naturalPowersSpec) false w args)
   (Rows.naturalPowersSpec.post enc Tryd.prog Tryd.f6 false true false false):=by
 refine returnsInHanded_of_change_and (C:=Tryd.checked) (X:=fun w _=>laidMetH Tryd.prog laid5 w) (fun _ _ _ hh h=>h.of_heap hh) own started (by kernel_rfl) Tryd.func6
  (ChangeSpec.witness_shaped (enc:=enc) (C:=Tryd.checked) (os:=os) (X:=fun w _=>laidMetH Tryd.prog laid5 w) false (World.doorLaid Tryd.prog 400 os) #[.string ⟨#[]⟩,.int .i64 0] 8 rfl (World.shaped_of_RefB (by kernel_rfl) (by kernel_rfl)) (by kernel_rfl) (by kernel_rfl) (by kernel_rfl) (door_met os _)) ?_
 intro W base args ds gs before hval0 hW _ _ hL _
 have hval:∀ (j:Nat) t v,Tryd.f6.params[j]? = some t→args[j]? = some v→Value.okWide Tryd.prog W .any base t v:=hval0
 have hW':=hW
 obtain ⟨p,q,hA0,hV,rfl,hfz,hnd⟩:=hW
 have hA:DataW.TrodAll enc Tryd.prog W 0 (fun _=>true) true Tryd.f6.params.toList args.toList ds p:=hA0
 rw [Tryd.params6] at hA hval
 obtain ⟨v0,vs0,d0,ds0,p0,q0,hargs,rfl,rfl,h0,r0⟩:=trodAll_cons hA
 obtain ⟨v1,vs1,d1,ds1,p1,q1,rfl,rfl,rfl,h1,r1⟩:=trodAll_cons r0
 obtain ⟨rfl,rfl,rfl⟩:=trodAll_nil r1
 obtain rfl:args = #[v0,v1]:=by cases args;simp_all
 obtain ⟨rfl,rfl⟩:=trodVars_none hV
 have lt0:∀ x ∈ p0,x.block < W.heap.size:=by obtain ⟨m,hm⟩:=h0;exact DataW.trod_lt m _ _ _ hm
 have lt1:∀ x ∈ p1,x.block < W.heap.size:=by obtain ⟨m,hm⟩:=h1;exact DataW.trod_lt m _ _ _ hm
 have k0:=h0
 have k1:=h1
 obtain ⟨a0,rfl⟩:=openS (hval 0 9 v0 rfl rfl) h0
 obtain ⟨a1,rfl,w1⟩:=open_i64_naturalPowers (hval 1 3 v1 rfl rfl) h1
 have hT:=laid_tab hL
 clear hA0 hval0 hval
 obtain ⟨k,hk⟩:=(Powers_law a0 a1).rounds
 refine (garboardlaw01_NaturalPowers.calls k a0 a1 true W hT hk).mono fun e W' ⟨he,bel⟩=>?_
 subst he
 exact ⟨_,rfl,_,_,_,[],_,[],hW',trodAll_mk1 (shut_bool Tryd.underlying4 _),(trodAll_cons_mk (Below.trod laidOut (by kernel_rfl) (of_decide_eq_true (by kernel_rfl)) k0 bel lt0) (trodAll_cons_mk (Below.trod laidOut (by kernel_rfl) (of_decide_eq_true (by kernel_rfl)) k1 bel lt1) trodAll_mk0)),rfl,bel.frame _,fun h=>by cases h⟩
theorem naturalPowers_row:Rows.NaturalPowersSaid :=
 OpenClaim.holds_of_wide 6 Tryd.f6 rfl rfl rfl rfl rfl rfl rfl ⟨rfl,rfl,rfl,rfl,rfl⟩ rfl rfl rfl rfl rfl (by kernel_rfl) Tryd.func6 (by kernel_rfl)
  (of_decide_eq_true (by kernel_rfl)) (by unfold Func.isWrapper;first|(rw [if_pos (by decide +kernel)];kernel_rfl)|(rw [if_neg (by decide +kernel)];exact ⟨rfl,rfl⟩))
  (fun os started H enc _=>naturalPowers_lifted os started H enc)
end Go.Proofs.YtaopmkcghancmaaDoor.Pr
namespace Go.Proofs.YtaopmkcghancmaaDoor
open Go
theorem naturalPowers_card_holds:Rows.NaturalPowersCardSaid :=
 Claim7.holds_tied_plain_at .later [] [.data,.data,.data,.sentinel,.sentinel] true (true, "15e2bb534210d3ebfac1118a7fbd3a9c70502882d4f4aec048f40a6a26db7ede") true
  Pr.naturalPowers_row (fun _ h=>by cases h) (by kernel_rfl) (fun _ h=>by cases h) naturalPowers_row_tie rfl ⟨rfl,rfl⟩ (by kernel_rfl) rfl
  (fun f fn hf hfn=>by
   obtain rfl:f = 6:=Option.some.inj ((show Tryd.prog.funcNamed "garboard/garboardlaw01.NaturalPowers" = some 6 by kernel_rfl).symm.trans hf) |>.symm
   obtain rfl:fn = Tryd.f6:=(Option.some.inj (Tryd.func6.symm.trans hfn)).symm
   exact ⟨by kernel_rfl,fun j t ht=>by
    rw [Tryd.params6] at ht
    have hm:t ∈ [9,3]:=by simpa using Array.mem_of_getElem? ht
    have hall:([9,3].all fun u=>!Tryd.prog.wantsStandIn u) = true:=by kernel_rfl
    exact (show Tryd.prog.wantsStandIn t = false by simpa using List.all_eq_true.1 hall t hm)⟩)
  (by kernel_rfl)
end Go.Proofs.YtaopmkcghancmaaDoor
