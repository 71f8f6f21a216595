/- Part 4 of 6: walks and laws of the functions of chapter 02 (integers as text), which the last part joins; no condition beyond those of the theorem there. The words of the print (W..) are the kit's, cut down by program to what is used here. -/
import Derived.Deep.RegionHeld3
import Derived.Great.BuildSlice
import Derived.Test.YtaknchlegjcdhaaGreatDoorCz3
set_option linter.unusedVariables false
set_option linter.unusedSimpArgs false
namespace Go.Proofs.YtaknchlegjcdhaaGreatDoor.Pr
open Go.RowKit Go.Lib Go.Proofs.YtaknchlegjcdhaaGreatDoorW.PrintWords Go.Proofs.YtaknchlegjcdhaaGreatDoorW.PrintLast Go.Proofs.YtaknchlegjcdhaaGreatDoorW.PrintMore Go.Proofs.YtaknchlegjcdhaaGreatDoor.NatTh
theorem bs_num (n:Nat):bs (num n) = decDigits n:=rfl
theorem num_list (n:Nat) (L:List UInt8) (h:nv ⟨L.toArray⟩ = true) (hn:pv L = n):(num n).toList = L:=by
 have h1:Nml L:=(nv_iff ⟨L.toArray⟩).1 h
 rw [toL,bs_num,← hn,dec_pv L h1]
theorem nv_num (n:Nat):nv (num n) = true:=(nv_iff _).2 (nml_dec n)
theorem nat_num (n:Nat):nat (num n) = n:=pv_dec n
theorem bs_inj {a b:ByteArray} (h:bs a = bs b):a = b:=by
 cases a
 cases b
 exact congrArg _ (Array.toList_inj.1 h)
theorem num_nat {a:ByteArray} (h:nv a = true):num (nat a) = a:=bs_inj (dec_pv (bs a) ((nv_iff a).1 h))
theorem num_inj {m n:Nat} (h:num m = num n):m = n:=by rw [← nat_num m,h,nat_num]
theorem num_toList_inj {m n:Nat}:(num m).toList = (num n).toList ↔ m = n:=⟨fun h=>num_inj (bs_inj (by rw [← toL,← toL,h])),fun h=>by rw [h]⟩
theorem num_beq (m n:Nat):((num m).toList == (num n).toList) = decide (m = n):=by
 by_cases h:m = n
 ·subst h
  simp
 ·rw [decide_eq_false h]
  exact beq_eq_false_iff_ne.2 (fun e=>h (num_toList_inj.1 e))
theorem num0:(num 0).toList = ([48]:List UInt8):=num_list _ _ (by decide +kernel) (by decide +kernel)
theorem num1:(num 1).toList = ([49]:List UInt8):=num_list _ _ (by decide +kernel) (by decide +kernel)
theorem str1:(⟨#[49]⟩:ByteArray) = num 1:=bs_inj (by rw [← toL (num 1),num1])
theorem str0:(⟨#[48]⟩:ByteArray) = num 0:=bs_inj (by rw [← toL (num 0),num0])
theorem beq0 (n:Nat):((num n).toList == ([48]:List UInt8)) = decide (n = 0):=by rw [← num0,num_beq]
def Sz (e n:Nat):Prop:=n < 10 ^ e
theorem sz_size {e n:Nat} (he:1≤e) (h:Sz e n):(num n).size≤e:=by
 have h1:(num n).size = nDigits n:=by
  rw [← bs_length,show bs (num n) = decDigits n from rfl,decDigits_length]
 rw [h1]
 exact nDigits_le e n he h
theorem Sz.mono {e f n:Nat} (h:Sz e n) (hf:e≤f):Sz f n:=Nat.lt_of_lt_of_le h (Nat.pow_le_pow_right (by omega) hf)
theorem Sz.le {e m n:Nat} (h:Sz e n) (hm:m≤n):Sz e m:=Nat.lt_of_le_of_lt hm h
theorem Sz.add {e m n:Nat} (hm:Sz e m) (hn:Sz e n):Sz (e + 1) (m + n):=by
 unfold Sz at *
 have:10 ^ (e + 1) = 10 ^ e * 10:=Nat.pow_succ 10 e
 omega
theorem Sz.mul {e f m n:Nat} (hm:Sz e m) (hn:Sz f n):Sz (e + f) (m * n):=by
 unfold Sz at *
 rw [Nat.pow_add]
 exact Nat.mul_lt_mul'' hm hn
theorem Sz.sh {e n:Nat} (h:Sz e n) (he:1≤e) (h2:e≤100000):Sh (num n):=Nat.le_trans (sz_size he h) (by omega)
theorem is_num {a:ByteArray} (h:nv a = true) (hs:a.size≤120):∃ n,a = num n∧Sz 120 n:=by
 refine ⟨nat a,(num_nat h).symm,?_⟩
 have h1:=pv_lt (bs a) ((nv_iff a).1 h).1
 rw [bs_length] at h1
 exact Nat.lt_of_lt_of_le h1 (Nat.pow_le_pow_right (by omega) hs)
theorem both_num (m n:Nat):(nv (num m) && nv (num n)) = true:=by rw [nv_num,nv_num];rfl
theorem add_f {m n:Nat} (hm:Sh (num m)) (hn:Sh (num n)):natural_Add.f (num m) (num n) = some (num (m + n),0):=by
 unfold natural_Add.f addV
 rw [if_pos ⟨hm,hn⟩,if_pos (both_num m n),nat_num,nat_num]
theorem sub_f {m n:Nat} (hm:Sh (num m)) (hn:Sh (num n)):natural_Sub.f (num m) (num n) = some (if m < n then (⟨#[]⟩,2) else (num (m - n),0)):=by
 unfold natural_Sub.f subV
 rw [if_pos ⟨hm,hn⟩,if_pos (both_num m n),nat_num,nat_num]
theorem mul_f {m n:Nat} (hm:Sh (num m)) (hn:Sh (num n)):natural_Mul.f (num m) (num n) = some (num (m * n),0):=by
 unfold natural_Mul.f mulV
 rw [if_pos ⟨hm,hn⟩,if_pos (both_num m n),nat_num,nat_num]
theorem cmp_e {m n:Nat} (hm:Sh (num m)) (hn:Sh (num n)):Ev (fun k=>natural_Compare.f k (num m) (num n)) (ord m n,0):=by
 have h:=Compare_ev (num m) (num n) hm hn
 unfold cmpSV at h
 rw [if_pos (both_num m n),nat_num,nat_num] at h
 exact h
theorem div_e {m n:Nat} (hm:Sh (num m)) (hn:Sh (num n)):Ev (fun k=>natural_DivMod.f k (num m) (num n)) (if n = 0 then (⟨#[]⟩,⟨#[]⟩,16) else (num (m / n),num (m % n),0)):=by
 have h:=DivMod_ev (num m) (num n) hm hn
 unfold divV at h
 rw [if_pos (both_num m n),nat_num,nat_num] at h
 exact h
theorem ord_lt {m n:Nat} (h:m < n):ord m n = -1:=if_pos h
end Go.Proofs.YtaknchlegjcdhaaGreatDoor.Pr
namespace Go.Proofs.YtaknchlegjcdhaaGreatDoor.Pr
open Go.RowKit Go.Proofs.YtaknchlegjcdhaaGreatDoorW.PrintWords Go.Proofs.YtaknchlegjcdhaaGreatDoorW.PrintLast Go.Proofs.YtaknchlegjcdhaaGreatDoorW.PrintMore
attribute [local go_sem] max2_int min2_int max_two min_two max_three min_three max_four min_four
set_option linter.unusedVariables false
set_option linter.unusedSimpArgs false
def integer_with.f (a0:Bool) (a1:ByteArray):Option (Bool × ByteArray):=if a0 = true then (some ((a1.toList != ([48]:List UInt8)),a1)) else (some (false,a1))
set_option maxHeartbeats 8000000 in
set_option maxRecDepth 100000 in
theorem integer_with.calls (a0:Bool) (a1:ByteArray) (r1:Bool) (r2:ByteArray) (w:World) (h:integer_with.f a0 a1 = some (r1,r2)) :
  Calls Tryz.prog 62 #[.bool a0,.string a1] w fun e w'=>e = .returned (.agg #[.bool r1,.string r2])∧Below w.heap.size w w':=by
 have hu43:=Tryz.underlying43
 have HB:=Aside0.mk (Below.refl w.heap.size w)
 have H:(if a0 = true then (some ((a1.toList != ([48]:List UInt8)),a1)) else (some (false,a1))) = some (r1,r2):=h
 clear h
 by_cases c3:a0 = true
 ·subst c3
  have H1:(some ((a1.toList != ([48]:List UInt8)),a1)) = some (r1,r2):=by rw [if_pos rfl] at H;exact H
  clear H
  have H:=H1
  clear H1
  simp only [Option.some.injEq,Prod.mk.injEq] at H
  obtain ⟨rfl,rfl⟩:=H
  go_enter Tryz.func62,Tryz.ntmps62
  go_wp2_with (first|((with_reducible refine gate_dst (N:=4) rfl ?_);refine box_event ?hg (N:=4) ?hd (cs:=#[.bool false,.string (⟨#[]⟩:ByteArray)]) (t:=43) ?hr ?_;(case hd=>rfl);(case hg=>rfl);(case hr=>first|(go_simp;done)|(go_simp;rfl));intro gb144 hg w4 hbox hb;have n0_:=Aside0.mk (below_step (by repeat (first|(with_reducible first|exact HB.out|apply below_alloc|apply pw_below_drewN|apply below_drew1)|exact HB.out)) hb);have n1_:=Aside0.mk (hbox);have n2_:=Aside0.mk ((by rw [hg];exact (below_size (by repeat (first|(with_reducible first|exact HB.out|apply below_alloc|apply pw_below_drewN|apply below_drew1)|exact HB.out))):w.heap.size≤gb144));have n3_:=Aside0.mk ((by rw [hg];exact (below_size (by repeat (first|(with_reducible first|exact HB.out|apply below_alloc|apply pw_below_drewN|apply below_drew1)|exact HB.out))):w.heap.size≤gb144));clear HB;have HB:=n0_;have BK144:=n1_;have GW144:=n2_;have GE144:=n3_;clear n0_ n1_ n2_ n3_;clear hb hbox hg;have hcz5_0:w4.cell? ⟨gb144,0,none⟩ = some (.bool false):=(blk_cell BK144.out 0).trans rfl;have hcz5_1:w4.cell? ⟨gb144,1,none⟩ = some (.string (⟨#[]⟩:ByteArray)):=(blk_cell BK144.out 1).trans rfl;have hfz5_0:=blk_frozen BK144.out 0;have hfz5_1:=blk_frozen BK144.out 1))
  refine bodyPost_ret (results_cell_row rfl _ _ gb144 43 #[.bool (a1.toList != ([48]:List UInt8)),.string a1] (0,0) _ rfl (by (with_reducible repeat (first|refine blk_drewN ?_ _|refine blk_drew ?_|refine blk_alloc ?_ _));refine blk_put (cs:=#[.bool (a1.toList != ([48]:List UInt8)),.string (⟨#[]⟩:ByteArray)]) ?_ 1 _ rfl;(with_reducible repeat (first|refine blk_drewN ?_ _|refine blk_drew ?_|refine blk_alloc ?_ _));refine blk_put (cs:=#[.bool false,.string (⟨#[]⟩:ByteArray)]) ?_ 0 _ rfl;(with_reducible repeat (first|refine blk_drewN ?_ _|refine blk_drew ?_|refine blk_alloc ?_ _));exact BK144.out) Tryz.underlying43 rfl (by kernel_rfl)) rfl ?_
  exact ⟨by first|rfl|(simp [errW_none,errW_some]<;>rfl)|(simp [*,errW_none,errW_some]<;>rfl),by repeat (first|(with_reducible first|exact HB.out|apply below_alloc|apply pw_below_drewN|apply below_drew1|refine below_set ?_ GE144.out)|exact HB.out)⟩
 ·replace c3:=Bool.eq_false_iff.mpr c3
  subst c3
  have H1:(some (false,a1)) = some (r1,r2):=by rw [if_neg (show ¬ (false = true) by decide)] at H;exact H
  clear H
  have H:=H1
  clear H1
  simp only [Option.some.injEq,Prod.mk.injEq] at H
  obtain ⟨rfl,rfl⟩:=H
  go_enter Tryz.func62,Tryz.ntmps62
  go_wp2_with (first|((with_reducible refine gate_dst (N:=4) rfl ?_);refine box_event ?hg (N:=4) ?hd (cs:=#[.bool false,.string (⟨#[]⟩:ByteArray)]) (t:=43) ?hr ?_;(case hd=>rfl);(case hg=>rfl);(case hr=>first|(go_simp;done)|(go_simp;rfl));intro gb144 hg w6 hbox hb;have n0_:=Aside0.mk (below_step (by repeat (first|(with_reducible first|exact HB.out|apply below_alloc|apply pw_below_drewN|apply below_drew1)|exact HB.out)) hb);have n1_:=Aside0.mk (hbox);have n2_:=Aside0.mk ((by rw [hg];exact (below_size (by repeat (first|(with_reducible first|exact HB.out|apply below_alloc|apply pw_below_drewN|apply below_drew1)|exact HB.out))):w.heap.size≤gb144));have n3_:=Aside0.mk ((by rw [hg];exact (below_size (by repeat (first|(with_reducible first|exact HB.out|apply below_alloc|apply pw_below_drewN|apply below_drew1)|exact HB.out))):w.heap.size≤gb144));clear HB;have HB:=n0_;have BK144:=n1_;have GW144:=n2_;have GE144:=n3_;clear n0_ n1_ n2_ n3_;clear hb hbox hg;have hcz7_0:w6.cell? ⟨gb144,0,none⟩ = some (.bool false):=(blk_cell BK144.out 0).trans rfl;have hcz7_1:w6.cell? ⟨gb144,1,none⟩ = some (.string (⟨#[]⟩:ByteArray)):=(blk_cell BK144.out 1).trans rfl;have hfz7_0:=blk_frozen BK144.out 0;have hfz7_1:=blk_frozen BK144.out 1))
  refine bodyPost_ret (results_cell_row rfl _ _ gb144 43 #[.bool false,.string a1] (0,0) _ rfl (by (with_reducible repeat (first|refine blk_drewN ?_ _|refine blk_drew ?_|refine blk_alloc ?_ _));refine blk_put (cs:=#[.bool false,.string (⟨#[]⟩:ByteArray)]) ?_ 1 _ rfl;(with_reducible repeat (first|refine blk_drewN ?_ _|refine blk_drew ?_|refine blk_alloc ?_ _));refine blk_put (cs:=#[.bool false,.string (⟨#[]⟩:ByteArray)]) ?_ 0 _ rfl;(with_reducible repeat (first|refine blk_drewN ?_ _|refine blk_drew ?_|refine blk_alloc ?_ _));exact BK144.out) Tryz.underlying43 rfl (by kernel_rfl)) rfl ?_
  exact ⟨by first|rfl|(simp [errW_none,errW_some]<;>rfl)|(simp [*,errW_none,errW_some]<;>rfl),by repeat (first|(with_reducible first|exact HB.out|apply below_alloc|apply pw_below_drewN|apply below_drew1|refine below_set ?_ GE144.out)|exact HB.out)⟩
end Go.Proofs.YtaknchlegjcdhaaGreatDoor.Pr
namespace Go.Proofs.YtaknchlegjcdhaaGreatDoor.Pr
open Go.RowKit Go.Proofs.YtaknchlegjcdhaaGreatDoorW.PrintWords Go.Proofs.YtaknchlegjcdhaaGreatDoorW.PrintLast Go.Proofs.YtaknchlegjcdhaaGreatDoorW.PrintMore
attribute [local go_sem] max2_int min2_int max_two min_two max_three min_three max_four min_four
set_option linter.unusedVariables false
set_option linter.unusedSimpArgs false
def integer_sum.f (a0_0:Bool) (a0_1:ByteArray) (a1_0:Bool) (a1_1:ByteArray):Option (Bool × ByteArray):=(natural_Add.f a0_1 a1_1).bind fun bt217=>((integer_with.f a0_0 bt217.1).bind fun bt219=>(some (bt219.1,bt219.2)))
set_option maxHeartbeats 8000000 in
set_option maxRecDepth 100000 in
theorem integer_sum.calls (a0_0:Bool) (a0_1:ByteArray) (a1_0:Bool) (a1_1:ByteArray) (r1:Bool) (r2:ByteArray) (w:World) (hL:LaidW w) (h:integer_sum.f a0_0 a0_1 a1_0 a1_1 = some (r1,r2)) :
  Calls Tryz.prog 76 #[.agg #[.bool a0_0,.string a0_1],.agg #[.bool a1_0,.string a1_1]] w fun e w'=>e = .returned (.agg #[.bool r1,.string r2])∧Below w.heap.size w w':=by
 have hu43:=Tryz.underlying43
 have HB:=Aside0.mk (Below.refl w.heap.size w)
 have HLW:=Aside0.mk hL
 clear hL
 have H:((natural_Add.f a0_1 a1_1).bind fun bt217=>((integer_with.f a0_0 bt217.1).bind fun bt219=>(some (bt219.1,bt219.2)))) = some (r1,r2):=h
 clear h
 replace H:=Option.bind_eq_some_iff.mp H
 obtain ⟨⟨t217,t218⟩,A30,H⟩:=H
 replace H:((integer_with.f a0_0 t217).bind fun bt219=>(some (bt219.1,bt219.2))) = some (r1,r2):=H
 have A3:=Aside0.mk A30
 clear A30
 replace H:=Option.bind_eq_some_iff.mp H
 obtain ⟨⟨t219,t220⟩,A40,H⟩:=H
 replace H:(some (t219,t220)) = some (r1,r2):=H
 have A4:=Aside0.mk A40
 clear A40
 simp only [Option.some.injEq,Prod.mk.injEq] at H
 obtain ⟨rfl,rfl⟩:=H
 go_enter Tryz.func76,Tryz.ntmps76
 go_wp2_with (first|((with_reducible refine gate_dst (N:=2) rfl ?_);refine box_event ?hg (N:=2) ?hd (cs:=#[.bool a0_0,.string a0_1]) (t:=43) ?hr ?_;(case hd=>rfl);(case hg=>rfl);(case hr=>first|(go_simp;done)|(go_simp;rfl));intro gb214 hg w5 hbox hb;have n0_:=Aside0.mk (below_step (by repeat (first|(with_reducible first|exact HB.out|apply below_alloc|apply pw_below_drewN|apply below_drew1)|exact HB.out)) hb);have n1_:=Aside0.mk (hbox);have n2_:=Aside0.mk ((by rw [hg];exact (below_size (by repeat (first|(with_reducible first|exact HB.out|apply below_alloc|apply pw_below_drewN|apply below_drew1)|exact HB.out))):w.heap.size≤gb214));have n3_:=Aside0.mk ((by rw [hg];exact (below_size (by repeat (first|(with_reducible first|exact HB.out|apply below_alloc|apply pw_below_drewN|apply below_drew1)|exact HB.out))):w.heap.size≤gb214));clear HB;have HB:=n0_;have BK214:=n1_;have GW214:=n2_;have GE214:=n3_;clear n0_ n1_ n2_ n3_;clear hb hbox hg)|((with_reducible refine gate_dst (N:=3) rfl ?_);refine box_event ?hg (N:=3) ?hd (cs:=#[.bool a1_0,.string a1_1]) (t:=43) ?hr ?_;(case hd=>rfl);(case hg=>rfl);(case hr=>first|(go_simp;done)|(go_simp;rfl));intro gb215 hg w6 hbox hb;have n0_:=Aside0.mk (blk_below (g:=gb214) (o:=.cells #[.bool a0_0,.string a0_1] 43 (0,0)) (by (with_reducible repeat (first|refine blk_drewN ?_ _|refine blk_drew ?_|refine blk_alloc ?_ _));exact BK214.out) hb);have n1_:=Aside0.mk (below_step (by repeat (first|(with_reducible first|exact HB.out|apply below_alloc|apply pw_below_drewN|apply below_drew1|refine below_set ?_ GE214.out)|exact HB.out)) hb);have n2_:=Aside0.mk (hbox);have n3_:=Aside0.mk ((by rw [hg];exact (below_size (by repeat (first|(with_reducible first|exact HB.out|apply below_alloc|apply pw_below_drewN|apply below_drew1|refine below_set ?_ GE214.out)|exact HB.out))):w.heap.size≤gb215));have n4_:=Aside0.mk ((by rw [hg];exact (below_size (by repeat (first|(with_reducible first|exact HB.out|apply below_alloc|apply pw_below_drewN|apply below_drew1|refine below_set ?_ GE214.out)|exact HB.out))):w.heap.size≤gb215));have n5_:=Aside0.mk ((by rw [hg];exact Nat.ne_of_lt (blk_lt (g:=gb214) (o:=.cells #[.bool a0_0,.string a0_1] 43 (0,0)) (by (with_reducible repeat (first|refine blk_drewN ?_ _|refine blk_drew ?_|refine blk_alloc ?_ _));exact BK214.out)):gb214≠gb215));have n6_:=Aside0.mk ((by rw [hg];exact Nat.ne_of_gt (blk_lt (g:=gb214) (o:=.cells #[.bool a0_0,.string a0_1] 43 (0,0)) (by (with_reducible repeat (first|refine blk_drewN ?_ _|refine blk_drew ?_|refine blk_alloc ?_ _));exact BK214.out)):gb215≠gb214));clear BK214;clear HB;have BK214:=n0_;have HB:=n1_;have BK215:=n2_;have GW215:=n3_;have GE215:=n4_;have NB214_215:=n5_;have NB215_214:=n6_;clear n0_ n1_ n2_ n3_ n4_ n5_ n6_;clear hb hbox hg)|((with_reducible refine gate_dst (N:=4) rfl ?_);refine box_event ?hg (N:=4) ?hd (cs:=#[.bool false,.string (⟨#[]⟩:ByteArray)]) (t:=43) ?hr ?_;(case hd=>rfl);(case hg=>rfl);(case hr=>first|(go_simp;done)|(go_simp;rfl));intro gb216 hg w7 hbox hb;have n0_:=Aside0.mk (blk_below (g:=gb214) (o:=.cells #[.bool a0_0,.string a0_1] 43 (0,0)) (by (with_reducible repeat (first|refine blk_drewN ?_ _|refine blk_drew ?_|refine blk_alloc ?_ _));exact BK214.out) hb);have n1_:=Aside0.mk (blk_below (g:=gb215) (o:=.cells #[.bool a1_0,.string a1_1] 43 (0,0)) (by (with_reducible repeat (first|refine blk_drewN ?_ _|refine blk_drew ?_|refine blk_alloc ?_ _));exact BK215.out) hb);have n2_:=Aside0.mk (below_step (by repeat (first|(with_reducible first|exact HB.out|apply below_alloc|apply pw_below_drewN|apply below_drew1|refine below_set ?_ GE214.out|refine below_set ?_ GE215.out)|exact HB.out)) hb);have n3_:=Aside0.mk (hbox);have n4_:=Aside0.mk ((by rw [hg];exact (below_size (by repeat (first|(with_reducible first|exact HB.out|apply below_alloc|apply pw_below_drewN|apply below_drew1|refine below_set ?_ GE214.out|refine below_set ?_ GE215.out)|exact HB.out))):w.heap.size≤gb216));have n5_:=Aside0.mk ((by rw [hg];exact (below_size (by repeat (first|(with_reducible first|exact HB.out|apply below_alloc|apply pw_below_drewN|apply below_drew1|refine below_set ?_ GE214.out|refine below_set ?_ GE215.out)|exact HB.out))):w.heap.size≤gb216));have n6_:=Aside0.mk ((by rw [hg];exact Nat.ne_of_lt (blk_lt (g:=gb214) (o:=.cells #[.bool a0_0,.string a0_1] 43 (0,0)) (by (with_reducible repeat (first|refine blk_drewN ?_ _|refine blk_drew ?_|refine blk_alloc ?_ _));exact BK214.out)):gb214≠gb216));have n7_:=Aside0.mk ((by rw [hg];exact Nat.ne_of_gt (blk_lt (g:=gb214) (o:=.cells #[.bool a0_0,.string a0_1] 43 (0,0)) (by (with_reducible repeat (first|refine blk_drewN ?_ _|refine blk_drew ?_|refine blk_alloc ?_ _));exact BK214.out)):gb216≠gb214));have n8_:=Aside0.mk ((by rw [hg];exact Nat.ne_of_lt (blk_lt (g:=gb215) (o:=.cells #[.bool a1_0,.string a1_1] 43 (0,0)) (by (with_reducible repeat (first|refine blk_drewN ?_ _|refine blk_drew ?_|refine blk_alloc ?_ _));exact BK215.out)):gb215≠gb216));have n9_:=Aside0.mk ((by rw [hg];exact Nat.ne_of_gt (blk_lt (g:=gb215) (o:=.cells #[.bool a1_0,.string a1_1] 43 (0,0)) (by (with_reducible repeat (first|refine blk_drewN ?_ _|refine blk_drew ?_|refine blk_alloc ?_ _));exact BK215.out)):gb216≠gb215));clear BK214;clear BK215;clear HB;have BK214:=n0_;have BK215:=n1_;have HB:=n2_;have BK216:=n3_;have GW216:=n4_;have GE216:=n5_;have NB214_216:=n6_;have NB216_214:=n7_;have NB215_216:=n8_;have NB216_215:=n9_;clear n0_ n1_ n2_ n3_ n4_ n5_ n6_ n7_ n8_ n9_;clear hb hbox hg;have hnb8:=NB214_215.out;have hnc8:=NB215_214.out;have hnb9:=NB214_216.out;have hnc9:=NB216_214.out;have hcz10_0:w7.cell? ⟨gb214,0,none⟩ = some (.bool a0_0):=(blk_cell BK214.out 0).trans rfl;have hcz10_1:w7.cell? ⟨gb214,1,none⟩ = some (.string a0_1):=(blk_cell BK214.out 1).trans rfl;have hfz10_0:=blk_frozen BK214.out 0;have hfz10_1:=blk_frozen BK214.out 1;have hnb11:=NB215_216.out;have hnc11:=NB216_215.out;have hcz12_0:w7.cell? ⟨gb215,0,none⟩ = some (.bool a1_0):=(blk_cell BK215.out 0).trans rfl;have hcz12_1:w7.cell? ⟨gb215,1,none⟩ = some (.string a1_1):=(blk_cell BK215.out 1).trans rfl;have hfz12_0:=blk_frozen BK215.out 0;have hfz12_1:=blk_frozen BK215.out 1)|((with_reducible refine gate_callee (f:=84) rfl ?_);refine goesL_ (some 12) rfl rfl Tryz.func84 (by kernel_rfl) rfl #[.string a0_1,.string a1_1] rfl (by (try simp only [List.map_toArray,List.map_cons,List.map_nil]);first|done|rfl|(simp only [List.length_drop,List.length_take];rfl)) ?_;(with_reducible refine (natural_Add.calls a0_1 a1_1 t217 t218 _ ?side1 A3.out).mono ?_);(case side1=>exact HLW.out.below (by repeat (first|(with_reducible first|exact HB.out|apply below_alloc|apply pw_below_drewN|apply below_drew1|refine below_set ?_ GE214.out|refine below_set ?_ GE215.out|refine below_set ?_ GE216.out)|exact HB.out)));rintro e w13 ⟨rfl,hb⟩;refine ⟨_,rfl,?_⟩;have n0_:=Aside0.mk (blk_below (g:=gb214) (o:=.cells #[.bool a0_0,.string a0_1] 43 (0,0)) (by (with_reducible repeat (first|refine blk_drewN ?_ _|refine blk_drew ?_|refine blk_alloc ?_ _));exact BK214.out) hb);have n1_:=Aside0.mk (blk_below (g:=gb215) (o:=.cells #[.bool a1_0,.string a1_1] 43 (0,0)) (by (with_reducible repeat (first|refine blk_drewN ?_ _|refine blk_drew ?_|refine blk_alloc ?_ _));exact BK215.out) hb);have n2_:=Aside0.mk (blk_below (g:=gb216) (o:=.cells #[.bool false,.string (⟨#[]⟩:ByteArray)] 43 (0,0)) (by (with_reducible repeat (first|refine blk_drewN ?_ _|refine blk_drew ?_|refine blk_alloc ?_ _));exact BK216.out) hb);have n3_:=Aside0.mk (below_step (by repeat (first|(with_reducible first|exact HB.out|apply below_alloc|apply pw_below_drewN|apply below_drew1|refine below_set ?_ GE214.out|refine below_set ?_ GE215.out|refine below_set ?_ GE216.out)|exact HB.out)) hb);clear BK214;clear BK215;clear BK216;clear HB;have BK214:=n0_;have BK215:=n1_;have BK216:=n2_;have HB:=n3_;clear n0_ n1_ n2_ n3_;(try clear hb);(try clear hb2);(try clear hk);(try clear hi);have hcz14_0:w13.cell? ⟨gb214,0,none⟩ = some (.bool a0_0):=(blk_cell BK214.out 0).trans rfl;have hcz14_1:w13.cell? ⟨gb214,1,none⟩ = some (.string a0_1):=(blk_cell BK214.out 1).trans rfl;have hfz14_0:=blk_frozen BK214.out 0;have hfz14_1:=blk_frozen BK214.out 1)|((with_reducible refine gate_callee (f:=62) rfl ?_);refine goesL_ (some 18) rfl rfl Tryz.func62 (by kernel_rfl) rfl #[.bool a0_0,.string t217] rfl (by (try simp only [List.map_toArray,List.map_cons,List.map_nil]);first|done|rfl|(simp only [List.length_drop,List.length_take];rfl)) ?_;(with_reducible refine (integer_with.calls a0_0 t217 t219 t220 _ A4.out).mono ?_);rintro e w15 ⟨rfl,hb⟩;refine ⟨_,rfl,?_⟩;have n0_:=Aside0.mk (blk_below (g:=gb214) (o:=.cells #[.bool a0_0,.string a0_1] 43 (0,0)) (by (with_reducible repeat (first|refine blk_drewN ?_ _|refine blk_drew ?_|refine blk_alloc ?_ _));exact BK214.out) hb);have n1_:=Aside0.mk (blk_below (g:=gb215) (o:=.cells #[.bool a1_0,.string a1_1] 43 (0,0)) (by (with_reducible repeat (first|refine blk_drewN ?_ _|refine blk_drew ?_|refine blk_alloc ?_ _));exact BK215.out) hb);have n2_:=Aside0.mk (blk_below (g:=gb216) (o:=.cells #[.bool false,.string (⟨#[]⟩:ByteArray)] 43 (0,0)) (by (with_reducible repeat (first|refine blk_drewN ?_ _|refine blk_drew ?_|refine blk_alloc ?_ _));exact BK216.out) hb);have n3_:=Aside0.mk (below_step (by repeat (first|(with_reducible first|exact HB.out|apply below_alloc|apply pw_below_drewN|apply below_drew1|refine below_set ?_ GE214.out|refine below_set ?_ GE215.out|refine below_set ?_ GE216.out)|exact HB.out)) hb);clear BK214;clear BK215;clear BK216;clear HB;have BK214:=n0_;have BK215:=n1_;have BK216:=n2_;have HB:=n3_;clear n0_ n1_ n2_ n3_;(try clear hb);(try clear hb2);(try clear hk);(try clear hi);have hcz16_0:w15.cell? ⟨gb216,0,none⟩ = some (.bool false):=(blk_cell BK216.out 0).trans rfl;have hcz16_1:w15.cell? ⟨gb216,1,none⟩ = some (.string (⟨#[]⟩:ByteArray)):=(blk_cell BK216.out 1).trans rfl;have hfz16_0:=blk_frozen BK216.out 0;have hfz16_1:=blk_frozen BK216.out 1))
 refine bodyPost_ret (results_cell_row rfl _ _ gb216 43 #[.bool t219,.string t220] (0,0) _ rfl (by (with_reducible repeat (first|refine blk_drewN ?_ _|refine blk_drew ?_|refine blk_alloc ?_ _));refine blk_put (cs:=#[.bool t219,.string (⟨#[]⟩:ByteArray)]) ?_ 1 _ rfl;(with_reducible repeat (first|refine blk_drewN ?_ _|refine blk_drew ?_|refine blk_alloc ?_ _));refine blk_put (cs:=#[.bool false,.string (⟨#[]⟩:ByteArray)]) ?_ 0 _ rfl;(with_reducible repeat (first|refine blk_drewN ?_ _|refine blk_drew ?_|refine blk_alloc ?_ _));exact BK216.out) Tryz.underlying43 rfl (by kernel_rfl)) rfl ?_
 exact ⟨by first|rfl|(simp [errW_none,errW_some]<;>rfl)|(simp [*,errW_none,errW_some]<;>rfl),by repeat (first|(with_reducible first|exact HB.out|apply below_alloc|apply pw_below_drewN|apply below_drew1|refine below_set ?_ GE214.out|refine below_set ?_ GE215.out|refine below_set ?_ GE216.out)|exact HB.out)⟩
end Go.Proofs.YtaknchlegjcdhaaGreatDoor.Pr
namespace Go.Proofs.YtaknchlegjcdhaaGreatDoor.Pr
open Go.RowKit Go.Proofs.YtaknchlegjcdhaaGreatDoorW.PrintWords Go.Proofs.YtaknchlegjcdhaaGreatDoorW.PrintLast Go.Proofs.YtaknchlegjcdhaaGreatDoorW.PrintMore
attribute [local go_sem] max2_int min2_int max_two min_two max_three min_three max_four min_four
set_option linter.unusedVariables false
set_option linter.unusedSimpArgs false
def integer_difference.f (k:Nat) (a0_0:Bool) (a0_1:ByteArray) (a1_0:Bool) (a1_1:ByteArray):Option (Bool × ByteArray):=(natural_Compare.f k a0_1 a1_1).bind fun bt242=>(if bt242.1 < 0 then ((natural_Sub.f a1_1 a0_1).bind fun bt244=>((integer_with.f a1_0 bt244.1).bind fun bt246=>(some (bt246.1,bt246.2)))) else ((natural_Sub.f a0_1 a1_1).bind fun bt248=>((integer_with.f a0_0 bt248.1).bind fun bt250=>(some (bt250.1,bt250.2)))))
set_option maxHeartbeats 8000000 in
set_option maxRecDepth 100000 in
theorem integer_difference.calls (k:Nat) (a0_0:Bool) (a0_1:ByteArray) (a1_0:Bool) (a1_1:ByteArray) (r1:Bool) (r2:ByteArray) (w:World) (hL:LaidW w) (h:integer_difference.f k a0_0 a0_1 a1_0 a1_1 = some (r1,r2)) :
  Calls Tryz.prog 77 #[.agg #[.bool a0_0,.string a0_1],.agg #[.bool a1_0,.string a1_1]] w fun e w'=>e = .returned (.agg #[.bool r1,.string r2])∧Below w.heap.size w w':=by
 have hu43:=Tryz.underlying43
 have HB:=Aside0.mk (Below.refl w.heap.size w)
 have HLW:=Aside0.mk hL
 clear hL
 have H:((natural_Compare.f k a0_1 a1_1).bind fun bt242=>(if bt242.1 < 0 then ((natural_Sub.f a1_1 a0_1).bind fun bt244=>((integer_with.f a1_0 bt244.1).bind fun bt246=>(some (bt246.1,bt246.2)))) else ((natural_Sub.f a0_1 a1_1).bind fun bt248=>((integer_with.f a0_0 bt248.1).bind fun bt250=>(some (bt250.1,bt250.2)))))) = some (r1,r2):=h
 clear h
 replace H:=Option.bind_eq_some_iff.mp H
 obtain ⟨⟨t242,t243⟩,A30,H⟩:=H
 replace H:(if t242 < 0 then ((natural_Sub.f a1_1 a0_1).bind fun bt244=>((integer_with.f a1_0 bt244.1).bind fun bt246=>(some (bt246.1,bt246.2)))) else ((natural_Sub.f a0_1 a1_1).bind fun bt248=>((integer_with.f a0_0 bt248.1).bind fun bt250=>(some (bt250.1,bt250.2))))) = some (r1,r2):=H
 have A3:=Aside0.mk A30
 clear A30
 by_cases c4:t242 < 0
 ·rw [if_pos c4] at H
  have c4b0:decide (t242 < 0) = true:=decide_eq_true c4
  clear c4
  replace H:=Option.bind_eq_some_iff.mp H
  obtain ⟨⟨t244,t245⟩,A50,H⟩:=H
  replace H:((integer_with.f a1_0 t244).bind fun bt246=>(some (bt246.1,bt246.2))) = some (r1,r2):=H
  have A5:=Aside0.mk A50
  clear A50
  replace H:=Option.bind_eq_some_iff.mp H
  obtain ⟨⟨t246,t247⟩,A60,H⟩:=H
  replace H:(some (t246,t247)) = some (r1,r2):=H
  have A6:=Aside0.mk A60
  clear A60
  simp only [Option.some.injEq,Prod.mk.injEq] at H
  obtain ⟨rfl,rfl⟩:=H
  go_enter Tryz.func77,Tryz.ntmps77
  go_wp2_with (first|((with_reducible refine gate_dst (N:=2) rfl ?_);refine box_event ?hg (N:=2) ?hd (cs:=#[.bool a0_0,.string a0_1]) (t:=43) ?hr ?_;(case hd=>rfl);(case hg=>rfl);(case hr=>first|(go_simp;done)|(go_simp;rfl));intro gb239 hg w7 hbox hb;have n0_:=Aside0.mk (below_step (by repeat (first|(with_reducible first|exact HB.out|apply below_alloc|apply pw_below_drewN|apply below_drew1)|exact HB.out)) hb);have n1_:=Aside0.mk (hbox);have n2_:=Aside0.mk ((by rw [hg];exact (below_size (by repeat (first|(with_reducible first|exact HB.out|apply below_alloc|apply pw_below_drewN|apply below_drew1)|exact HB.out))):w.heap.size≤gb239));have n3_:=Aside0.mk ((by rw [hg];exact (below_size (by repeat (first|(with_reducible first|exact HB.out|apply below_alloc|apply pw_below_drewN|apply below_drew1)|exact HB.out))):w.heap.size≤gb239));clear HB;have HB:=n0_;have BK239:=n1_;have GW239:=n2_;have GE239:=n3_;clear n0_ n1_ n2_ n3_;clear hb hbox hg)|((with_reducible refine gate_dst (N:=3) rfl ?_);refine box_event ?hg (N:=3) ?hd (cs:=#[.bool a1_0,.string a1_1]) (t:=43) ?hr ?_;(case hd=>rfl);(case hg=>rfl);(case hr=>first|(go_simp;done)|(go_simp;rfl));intro gb240 hg w8 hbox hb;have n0_:=Aside0.mk (blk_below (g:=gb239) (o:=.cells #[.bool a0_0,.string a0_1] 43 (0,0)) (by (with_reducible repeat (first|refine blk_drewN ?_ _|refine blk_drew ?_|refine blk_alloc ?_ _));exact BK239.out) hb);have n1_:=Aside0.mk (below_step (by repeat (first|(with_reducible first|exact HB.out|apply below_alloc|apply pw_below_drewN|apply below_drew1|refine below_set ?_ GE239.out)|exact HB.out)) hb);have n2_:=Aside0.mk (hbox);have n3_:=Aside0.mk ((by rw [hg];exact (below_size (by repeat (first|(with_reducible first|exact HB.out|apply below_alloc|apply pw_below_drewN|apply below_drew1|refine below_set ?_ GE239.out)|exact HB.out))):w.heap.size≤gb240));have n4_:=Aside0.mk ((by rw [hg];exact (below_size (by repeat (first|(with_reducible first|exact HB.out|apply below_alloc|apply pw_below_drewN|apply below_drew1|refine below_set ?_ GE239.out)|exact HB.out))):w.heap.size≤gb240));have n5_:=Aside0.mk ((by rw [hg];exact Nat.ne_of_lt (blk_lt (g:=gb239) (o:=.cells #[.bool a0_0,.string a0_1] 43 (0,0)) (by (with_reducible repeat (first|refine blk_drewN ?_ _|refine blk_drew ?_|refine blk_alloc ?_ _));exact BK239.out)):gb239≠gb240));have n6_:=Aside0.mk ((by rw [hg];exact Nat.ne_of_gt (blk_lt (g:=gb239) (o:=.cells #[.bool a0_0,.string a0_1] 43 (0,0)) (by (with_reducible repeat (first|refine blk_drewN ?_ _|refine blk_drew ?_|refine blk_alloc ?_ _));exact BK239.out)):gb240≠gb239));clear BK239;clear HB;have BK239:=n0_;have HB:=n1_;have BK240:=n2_;have GW240:=n3_;have GE240:=n4_;have NB239_240:=n5_;have NB240_239:=n6_;clear n0_ n1_ n2_ n3_ n4_ n5_ n6_;clear hb hbox hg)|((with_reducible refine gate_dst (N:=4) rfl ?_);refine box_event ?hg (N:=4) ?hd (cs:=#[.bool false,.string (⟨#[]⟩:ByteArray)]) (t:=43) ?hr ?_;(case hd=>rfl);(case hg=>rfl);(case hr=>first|(go_simp;done)|(go_simp;rfl));intro gb241 hg w9 hbox hb;have n0_:=Aside0.mk (blk_below (g:=gb239) (o:=.cells #[.bool a0_0,.string a0_1] 43 (0,0)) (by (with_reducible repeat (first|refine blk_drewN ?_ _|refine blk_drew ?_|refine blk_alloc ?_ _));exact BK239.out) hb);have n1_:=Aside0.mk (blk_below (g:=gb240) (o:=.cells #[.bool a1_0,.string a1_1] 43 (0,0)) (by (with_reducible repeat (first|refine blk_drewN ?_ _|refine blk_drew ?_|refine blk_alloc ?_ _));exact BK240.out) hb);have n2_:=Aside0.mk (below_step (by repeat (first|(with_reducible first|exact HB.out|apply below_alloc|apply pw_below_drewN|apply below_drew1|refine below_set ?_ GE239.out|refine below_set ?_ GE240.out)|exact HB.out)) hb);have n3_:=Aside0.mk (hbox);have n4_:=Aside0.mk ((by rw [hg];exact (below_size (by repeat (first|(with_reducible first|exact HB.out|apply below_alloc|apply pw_below_drewN|apply below_drew1|refine below_set ?_ GE239.out|refine below_set ?_ GE240.out)|exact HB.out))):w.heap.size≤gb241));have n5_:=Aside0.mk ((by rw [hg];exact (below_size (by repeat (first|(with_reducible first|exact HB.out|apply below_alloc|apply pw_below_drewN|apply below_drew1|refine below_set ?_ GE239.out|refine below_set ?_ GE240.out)|exact HB.out))):w.heap.size≤gb241));have n6_:=Aside0.mk ((by rw [hg];exact Nat.ne_of_lt (blk_lt (g:=gb239) (o:=.cells #[.bool a0_0,.string a0_1] 43 (0,0)) (by (with_reducible repeat (first|refine blk_drewN ?_ _|refine blk_drew ?_|refine blk_alloc ?_ _));exact BK239.out)):gb239≠gb241));have n7_:=Aside0.mk ((by rw [hg];exact Nat.ne_of_gt (blk_lt (g:=gb239) (o:=.cells #[.bool a0_0,.string a0_1] 43 (0,0)) (by (with_reducible repeat (first|refine blk_drewN ?_ _|refine blk_drew ?_|refine blk_alloc ?_ _));exact BK239.out)):gb241≠gb239));have n8_:=Aside0.mk ((by rw [hg];exact Nat.ne_of_lt (blk_lt (g:=gb240) (o:=.cells #[.bool a1_0,.string a1_1] 43 (0,0)) (by (with_reducible repeat (first|refine blk_drewN ?_ _|refine blk_drew ?_|refine blk_alloc ?_ _));exact BK240.out)):gb240≠gb241));have n9_:=Aside0.mk ((by rw [hg];exact Nat.ne_of_gt (blk_lt (g:=gb240) (o:=.cells #[.bool a1_0,.string a1_1] 43 (0,0)) (by (with_reducible repeat (first|refine blk_drewN ?_ _|refine blk_drew ?_|refine blk_alloc ?_ _));exact BK240.out)):gb241≠gb240));clear BK239;clear BK240;clear HB;have BK239:=n0_;have BK240:=n1_;have HB:=n2_;have BK241:=n3_;have GW241:=n4_;have GE241:=n5_;have NB239_241:=n6_;have NB241_239:=n7_;have NB240_241:=n8_;have NB241_240:=n9_;clear n0_ n1_ n2_ n3_ n4_ n5_ n6_ n7_ n8_ n9_;clear hb hbox hg;have hnb10:=NB239_240.out;have hnc10:=NB240_239.out;have hnb11:=NB239_241.out;have hnc11:=NB241_239.out;have hcz12_0:w9.cell? ⟨gb239,0,none⟩ = some (.bool a0_0):=(blk_cell BK239.out 0).trans rfl;have hcz12_1:w9.cell? ⟨gb239,1,none⟩ = some (.string a0_1):=(blk_cell BK239.out 1).trans rfl;have hfz12_0:=blk_frozen BK239.out 0;have hfz12_1:=blk_frozen BK239.out 1;have hnb13:=NB240_241.out;have hnc13:=NB241_240.out;have hcz14_0:w9.cell? ⟨gb240,0,none⟩ = some (.bool a1_0):=(blk_cell BK240.out 0).trans rfl;have hcz14_1:w9.cell? ⟨gb240,1,none⟩ = some (.string a1_1):=(blk_cell BK240.out 1).trans rfl;have hfz14_0:=blk_frozen BK240.out 0;have hfz14_1:=blk_frozen BK240.out 1)|((with_reducible refine gate_callee (f:=36) rfl ?_);refine goesL_ (some 14) rfl rfl Tryz.func36 (by kernel_rfl) rfl #[.string a0_1,.string a1_1] rfl (by (try simp only [List.map_toArray,List.map_cons,List.map_nil]);first|done|rfl|(simp only [List.length_drop,List.length_take];rfl)) ?_;(with_reducible refine (natural_Compare.calls k a0_1 a1_1 t242 t243 _ A3.out).mono ?_);rintro e w15 ⟨rfl,hb⟩;refine ⟨_,rfl,?_⟩;have n0_:=Aside0.mk (blk_below (g:=gb239) (o:=.cells #[.bool a0_0,.string a0_1] 43 (0,0)) (by (with_reducible repeat (first|refine blk_drewN ?_ _|refine blk_drew ?_|refine blk_alloc ?_ _));exact BK239.out) hb);have n1_:=Aside0.mk (blk_below (g:=gb240) (o:=.cells #[.bool a1_0,.string a1_1] 43 (0,0)) (by (with_reducible repeat (first|refine blk_drewN ?_ _|refine blk_drew ?_|refine blk_alloc ?_ _));exact BK240.out) hb);have n2_:=Aside0.mk (blk_below (g:=gb241) (o:=.cells #[.bool false,.string (⟨#[]⟩:ByteArray)] 43 (0,0)) (by (with_reducible repeat (first|refine blk_drewN ?_ _|refine blk_drew ?_|refine blk_alloc ?_ _));exact BK241.out) hb);have n3_:=Aside0.mk (below_step (by repeat (first|(with_reducible first|exact HB.out|apply below_alloc|apply pw_below_drewN|apply below_drew1|refine below_set ?_ GE239.out|refine below_set ?_ GE240.out|refine below_set ?_ GE241.out)|exact HB.out)) hb);clear BK239;clear BK240;clear BK241;clear HB;have BK239:=n0_;have BK240:=n1_;have BK241:=n2_;have HB:=n3_;clear n0_ n1_ n2_ n3_;(try clear hb);(try clear hb2);(try clear hk);(try clear hi);have hcz16_0:w15.cell? ⟨gb240,0,none⟩ = some (.bool a1_0):=(blk_cell BK240.out 0).trans rfl;have hcz16_1:w15.cell? ⟨gb240,1,none⟩ = some (.string a1_1):=(blk_cell BK240.out 1).trans rfl;have hfz16_0:=blk_frozen BK240.out 0;have hfz16_1:=blk_frozen BK240.out 1;have hcz17_0:w15.cell? ⟨gb239,0,none⟩ = some (.bool a0_0):=(blk_cell BK239.out 0).trans rfl;have hcz17_1:w15.cell? ⟨gb239,1,none⟩ = some (.string a0_1):=(blk_cell BK239.out 1).trans rfl;have hfz17_0:=blk_frozen BK239.out 0;have hfz17_1:=blk_frozen BK239.out 1)|((with_reducible refine gate_callee (f:=85) rfl ?_);refine goesL_ (some 26) rfl rfl Tryz.func85 (by kernel_rfl) rfl #[.string a1_1,.string a0_1] rfl (by (try simp only [List.map_toArray,List.map_cons,List.map_nil]);first|done|rfl|(simp only [List.length_drop,List.length_take];rfl)) ?_;(with_reducible refine (natural_Sub.calls a1_1 a0_1 t244 t245 _ ?side1 A5.out).mono ?_);(case side1=>exact HLW.out.below (by repeat (first|(with_reducible first|exact HB.out|apply below_alloc|apply pw_below_drewN|apply below_drew1|refine below_set ?_ GE239.out|refine below_set ?_ GE240.out|refine below_set ?_ GE241.out)|exact HB.out)));rintro e w18 ⟨rfl,hb⟩;refine ⟨_,rfl,?_⟩;have n0_:=Aside0.mk (blk_below (g:=gb239) (o:=.cells #[.bool a1_0,.string a1_1] 43 (0,0)) (by (with_reducible repeat (first|refine blk_drewN ?_ _|refine blk_drew ?_|refine blk_alloc ?_ _));refine blk_far ?_ NB239_240.out _;(with_reducible repeat (first|refine blk_drewN ?_ _|refine blk_drew ?_|refine blk_alloc ?_ _));refine blk_far ?_ NB239_240.out _;(with_reducible repeat (first|refine blk_drewN ?_ _|refine blk_drew ?_|refine blk_alloc ?_ _));refine blk_put (cs:=#[.bool a1_0,.string a0_1]) ?_ 1 _ rfl;(with_reducible repeat (first|refine blk_drewN ?_ _|refine blk_drew ?_|refine blk_alloc ?_ _));refine blk_put (cs:=#[.bool a0_0,.string a0_1]) ?_ 0 _ rfl;(with_reducible repeat (first|refine blk_drewN ?_ _|refine blk_drew ?_|refine blk_alloc ?_ _));exact BK239.out) hb);have n1_:=Aside0.mk (blk_below (g:=gb240) (o:=.cells #[.bool a0_0,.string a0_1] 43 (0,0)) (by (with_reducible repeat (first|refine blk_drewN ?_ _|refine blk_drew ?_|refine blk_alloc ?_ _));refine blk_put (cs:=#[.bool a0_0,.string a1_1]) ?_ 1 _ rfl;(with_reducible repeat (first|refine blk_drewN ?_ _|refine blk_drew ?_|refine blk_alloc ?_ _));refine blk_put (cs:=#[.bool a1_0,.string a1_1]) ?_ 0 _ rfl;(with_reducible repeat (first|refine blk_drewN ?_ _|refine blk_drew ?_|refine blk_alloc ?_ _));refine blk_far ?_ NB240_239.out _;(with_reducible repeat (first|refine blk_drewN ?_ _|refine blk_drew ?_|refine blk_alloc ?_ _));refine blk_far ?_ NB240_239.out _;(with_reducible repeat (first|refine blk_drewN ?_ _|refine blk_drew ?_|refine blk_alloc ?_ _));exact BK240.out) hb);have n2_:=Aside0.mk (blk_below (g:=gb241) (o:=.cells #[.bool false,.string (⟨#[]⟩:ByteArray)] 43 (0,0)) (by (with_reducible repeat (first|refine blk_drewN ?_ _|refine blk_drew ?_|refine blk_alloc ?_ _));refine blk_far ?_ NB241_240.out _;(with_reducible repeat (first|refine blk_drewN ?_ _|refine blk_drew ?_|refine blk_alloc ?_ _));refine blk_far ?_ NB241_240.out _;(with_reducible repeat (first|refine blk_drewN ?_ _|refine blk_drew ?_|refine blk_alloc ?_ _));refine blk_far ?_ NB241_239.out _;(with_reducible repeat (first|refine blk_drewN ?_ _|refine blk_drew ?_|refine blk_alloc ?_ _));refine blk_far ?_ NB241_239.out _;(with_reducible repeat (first|refine blk_drewN ?_ _|refine blk_drew ?_|refine blk_alloc ?_ _));exact BK241.out) hb);have n3_:=Aside0.mk (below_step (by repeat (first|(with_reducible first|exact HB.out|apply below_alloc|apply pw_below_drewN|apply below_drew1|refine below_set ?_ GE239.out|refine below_set ?_ GE240.out|refine below_set ?_ GE241.out)|exact HB.out)) hb);clear BK239;clear BK240;clear BK241;clear HB;have BK239:=n0_;have BK240:=n1_;have BK241:=n2_;have HB:=n3_;clear n0_ n1_ n2_ n3_;(try clear hb);(try clear hb2);(try clear hk);(try clear hi);have hcz19_0:w18.cell? ⟨gb239,0,none⟩ = some (.bool a1_0):=(blk_cell BK239.out 0).trans rfl;have hcz19_1:w18.cell? ⟨gb239,1,none⟩ = some (.string a1_1):=(blk_cell BK239.out 1).trans rfl;have hfz19_0:=blk_frozen BK239.out 0;have hfz19_1:=blk_frozen BK239.out 1)|((with_reducible refine gate_callee (f:=62) rfl ?_);refine goesL_ (some 32) rfl rfl Tryz.func62 (by kernel_rfl) rfl #[.bool a1_0,.string t244] rfl (by (try simp only [List.map_toArray,List.map_cons,List.map_nil]);first|done|rfl|(simp only [List.length_drop,List.length_take];rfl)) ?_;(with_reducible refine (integer_with.calls a1_0 t244 t246 t247 _ A6.out).mono ?_);rintro e w20 ⟨rfl,hb⟩;refine ⟨_,rfl,?_⟩;have n0_:=Aside0.mk (blk_below (g:=gb239) (o:=.cells #[.bool a1_0,.string a1_1] 43 (0,0)) (by (with_reducible repeat (first|refine blk_drewN ?_ _|refine blk_drew ?_|refine blk_alloc ?_ _));exact BK239.out) hb);have n1_:=Aside0.mk (blk_below (g:=gb240) (o:=.cells #[.bool a0_0,.string a0_1] 43 (0,0)) (by (with_reducible repeat (first|refine blk_drewN ?_ _|refine blk_drew ?_|refine blk_alloc ?_ _));exact BK240.out) hb);have n2_:=Aside0.mk (blk_below (g:=gb241) (o:=.cells #[.bool false,.string (⟨#[]⟩:ByteArray)] 43 (0,0)) (by (with_reducible repeat (first|refine blk_drewN ?_ _|refine blk_drew ?_|refine blk_alloc ?_ _));exact BK241.out) hb);have n3_:=Aside0.mk (below_step (by repeat (first|(with_reducible first|exact HB.out|apply below_alloc|apply pw_below_drewN|apply below_drew1|refine below_set ?_ GE239.out|refine below_set ?_ GE240.out|refine below_set ?_ GE241.out)|exact HB.out)) hb);clear BK239;clear BK240;clear BK241;clear HB;have BK239:=n0_;have BK240:=n1_;have BK241:=n2_;have HB:=n3_;clear n0_ n1_ n2_ n3_;(try clear hb);(try clear hb2);(try clear hk);(try clear hi);have hcz21_0:w20.cell? ⟨gb241,0,none⟩ = some (.bool false):=(blk_cell BK241.out 0).trans rfl;have hcz21_1:w20.cell? ⟨gb241,1,none⟩ = some (.string (⟨#[]⟩:ByteArray)):=(blk_cell BK241.out 1).trans rfl;have hfz21_0:=blk_frozen BK241.out 0;have hfz21_1:=blk_frozen BK241.out 1))
  refine bodyPost_ret (results_cell_row rfl _ _ gb241 43 #[.bool t246,.string t247] (0,0) _ rfl (by (with_reducible repeat (first|refine blk_drewN ?_ _|refine blk_drew ?_|refine blk_alloc ?_ _));refine blk_put (cs:=#[.bool t246,.string (⟨#[]⟩:ByteArray)]) ?_ 1 _ rfl;(with_reducible repeat (first|refine blk_drewN ?_ _|refine blk_drew ?_|refine blk_alloc ?_ _));refine blk_put (cs:=#[.bool false,.string (⟨#[]⟩:ByteArray)]) ?_ 0 _ rfl;(with_reducible repeat (first|refine blk_drewN ?_ _|refine blk_drew ?_|refine blk_alloc ?_ _));exact BK241.out) Tryz.underlying43 rfl (by kernel_rfl)) rfl ?_
  exact ⟨by first|rfl|(simp [errW_none,errW_some]<;>rfl)|(simp [*,errW_none,errW_some]<;>rfl),by repeat (first|(with_reducible first|exact HB.out|apply below_alloc|apply pw_below_drewN|apply below_drew1|refine below_set ?_ GE239.out|refine below_set ?_ GE240.out|refine below_set ?_ GE241.out)|exact HB.out)⟩
 ·rw [if_neg c4] at H
  have c4b0:decide (t242 < 0) = false:=decide_eq_false c4
  clear c4
  replace H:=Option.bind_eq_some_iff.mp H
  obtain ⟨⟨t248,t249⟩,A220,H⟩:=H
  replace H:((integer_with.f a0_0 t248).bind fun bt250=>(some (bt250.1,bt250.2))) = some (r1,r2):=H
  have A22:=Aside0.mk A220
  clear A220
  replace H:=Option.bind_eq_some_iff.mp H
  obtain ⟨⟨t250,t251⟩,A230,H⟩:=H
  replace H:(some (t250,t251)) = some (r1,r2):=H
  have A23:=Aside0.mk A230
  clear A230
  simp only [Option.some.injEq,Prod.mk.injEq] at H
  obtain ⟨rfl,rfl⟩:=H
  go_enter Tryz.func77,Tryz.ntmps77
  go_wp2_with (first|((with_reducible refine gate_dst (N:=2) rfl ?_);refine box_event ?hg (N:=2) ?hd (cs:=#[.bool a0_0,.string a0_1]) (t:=43) ?hr ?_;(case hd=>rfl);(case hg=>rfl);(case hr=>first|(go_simp;done)|(go_simp;rfl));intro gb239 hg w24 hbox hb;have n0_:=Aside0.mk (below_step (by repeat (first|(with_reducible first|exact HB.out|apply below_alloc|apply pw_below_drewN|apply below_drew1)|exact HB.out)) hb);have n1_:=Aside0.mk (hbox);have n2_:=Aside0.mk ((by rw [hg];exact (below_size (by repeat (first|(with_reducible first|exact HB.out|apply below_alloc|apply pw_below_drewN|apply below_drew1)|exact HB.out))):w.heap.size≤gb239));have n3_:=Aside0.mk ((by rw [hg];exact (below_size (by repeat (first|(with_reducible first|exact HB.out|apply below_alloc|apply pw_below_drewN|apply below_drew1)|exact HB.out))):w.heap.size≤gb239));clear HB;have HB:=n0_;have BK239:=n1_;have GW239:=n2_;have GE239:=n3_;clear n0_ n1_ n2_ n3_;clear hb hbox hg)|((with_reducible refine gate_dst (N:=3) rfl ?_);refine box_event ?hg (N:=3) ?hd (cs:=#[.bool a1_0,.string a1_1]) (t:=43) ?hr ?_;(case hd=>rfl);(case hg=>rfl);(case hr=>first|(go_simp;done)|(go_simp;rfl));intro gb240 hg w25 hbox hb;have n0_:=Aside0.mk (blk_below (g:=gb239) (o:=.cells #[.bool a0_0,.string a0_1] 43 (0,0)) (by (with_reducible repeat (first|refine blk_drewN ?_ _|refine blk_drew ?_|refine blk_alloc ?_ _));exact BK239.out) hb);have n1_:=Aside0.mk (below_step (by repeat (first|(with_reducible first|exact HB.out|apply below_alloc|apply pw_below_drewN|apply below_drew1|refine below_set ?_ GE239.out)|exact HB.out)) hb);have n2_:=Aside0.mk (hbox);have n3_:=Aside0.mk ((by rw [hg];exact (below_size (by repeat (first|(with_reducible first|exact HB.out|apply below_alloc|apply pw_below_drewN|apply below_drew1|refine below_set ?_ GE239.out)|exact HB.out))):w.heap.size≤gb240));have n4_:=Aside0.mk ((by rw [hg];exact (below_size (by repeat (first|(with_reducible first|exact HB.out|apply below_alloc|apply pw_below_drewN|apply below_drew1|refine below_set ?_ GE239.out)|exact HB.out))):w.heap.size≤gb240));have n5_:=Aside0.mk ((by rw [hg];exact Nat.ne_of_lt (blk_lt (g:=gb239) (o:=.cells #[.bool a0_0,.string a0_1] 43 (0,0)) (by (with_reducible repeat (first|refine blk_drewN ?_ _|refine blk_drew ?_|refine blk_alloc ?_ _));exact BK239.out)):gb239≠gb240));have n6_:=Aside0.mk ((by rw [hg];exact Nat.ne_of_gt (blk_lt (g:=gb239) (o:=.cells #[.bool a0_0,.string a0_1] 43 (0,0)) (by (with_reducible repeat (first|refine blk_drewN ?_ _|refine blk_drew ?_|refine blk_alloc ?_ _));exact BK239.out)):gb240≠gb239));clear BK239;clear HB;have BK239:=n0_;have HB:=n1_;have BK240:=n2_;have GW240:=n3_;have GE240:=n4_;have NB239_240:=n5_;have NB240_239:=n6_;clear n0_ n1_ n2_ n3_ n4_ n5_ n6_;clear hb hbox hg)|((with_reducible refine gate_dst (N:=4) rfl ?_);refine box_event ?hg (N:=4) ?hd (cs:=#[.bool false,.string (⟨#[]⟩:ByteArray)]) (t:=43) ?hr ?_;(case hd=>rfl);(case hg=>rfl);(case hr=>first|(go_simp;done)|(go_simp;rfl));intro gb241 hg w26 hbox hb;have n0_:=Aside0.mk (blk_below (g:=gb239) (o:=.cells #[.bool a0_0,.string a0_1] 43 (0,0)) (by (with_reducible repeat (first|refine blk_drewN ?_ _|refine blk_drew ?_|refine blk_alloc ?_ _));exact BK239.out) hb);have n1_:=Aside0.mk (blk_below (g:=gb240) (o:=.cells #[.bool a1_0,.string a1_1] 43 (0,0)) (by (with_reducible repeat (first|refine blk_drewN ?_ _|refine blk_drew ?_|refine blk_alloc ?_ _));exact BK240.out) hb);have n2_:=Aside0.mk (below_step (by repeat (first|(with_reducible first|exact HB.out|apply below_alloc|apply pw_below_drewN|apply below_drew1|refine below_set ?_ GE239.out|refine below_set ?_ GE240.out)|exact HB.out)) hb);have n3_:=Aside0.mk (hbox);have n4_:=Aside0.mk ((by rw [hg];exact (below_size (by repeat (first|(with_reducible first|exact HB.out|apply below_alloc|apply pw_below_drewN|apply below_drew1|refine below_set ?_ GE239.out|refine below_set ?_ GE240.out)|exact HB.out))):w.heap.size≤gb241));have n5_:=Aside0.mk ((by rw [hg];exact (below_size (by repeat (first|(with_reducible first|exact HB.out|apply below_alloc|apply pw_below_drewN|apply below_drew1|refine below_set ?_ GE239.out|refine below_set ?_ GE240.out)|exact HB.out))):w.heap.size≤gb241));have n6_:=Aside0.mk ((by rw [hg];exact Nat.ne_of_lt (blk_lt (g:=gb239) (o:=.cells #[.bool a0_0,.string a0_1] 43 (0,0)) (by (with_reducible repeat (first|refine blk_drewN ?_ _|refine blk_drew ?_|refine blk_alloc ?_ _));exact BK239.out)):gb239≠gb241));have n7_:=Aside0.mk ((by rw [hg];exact Nat.ne_of_gt (blk_lt (g:=gb239) (o:=.cells #[.bool a0_0,.string a0_1] 43 (0,0)) (by (with_reducible repeat (first|refine blk_drewN ?_ _|refine blk_drew ?_|refine blk_alloc ?_ _));exact BK239.out)):gb241≠gb239));have n8_:=Aside0.mk ((by rw [hg];exact Nat.ne_of_lt (blk_lt (g:=gb240) (o:=.cells #[.bool a1_0,.string a1_1] 43 (0,0)) (by (with_reducible repeat (first|refine blk_drewN ?_ _|refine blk_drew ?_|refine blk_alloc ?_ _));exact BK240.out)):gb240≠gb241));have n9_:=Aside0.mk ((by rw [hg];exact Nat.ne_of_gt (blk_lt (g:=gb240) (o:=.cells #[.bool a1_0,.string a1_1] 43 (0,0)) (by (with_reducible repeat (first|refine blk_drewN ?_ _|refine blk_drew ?_|refine blk_alloc ?_ _));exact BK240.out)):gb241≠gb240));clear BK239;clear BK240;clear HB;have BK239:=n0_;have BK240:=n1_;have HB:=n2_;have BK241:=n3_;have GW241:=n4_;have GE241:=n5_;have NB239_241:=n6_;have NB241_239:=n7_;have NB240_241:=n8_;have NB241_240:=n9_;clear n0_ n1_ n2_ n3_ n4_ n5_ n6_ n7_ n8_ n9_;clear hb hbox hg;have hnb27:=NB239_240.out;have hnc27:=NB240_239.out;have hnb28:=NB239_241.out;have hnc28:=NB241_239.out;have hcz29_0:w26.cell? ⟨gb239,0,none⟩ = some (.bool a0_0):=(blk_cell BK239.out 0).trans rfl;have hcz29_1:w26.cell? ⟨gb239,1,none⟩ = some (.string a0_1):=(blk_cell BK239.out 1).trans rfl;have hfz29_0:=blk_frozen BK239.out 0;have hfz29_1:=blk_frozen BK239.out 1;have hnb30:=NB240_241.out;have hnc30:=NB241_240.out;have hcz31_0:w26.cell? ⟨gb240,0,none⟩ = some (.bool a1_0):=(blk_cell BK240.out 0).trans rfl;have hcz31_1:w26.cell? ⟨gb240,1,none⟩ = some (.string a1_1):=(blk_cell BK240.out 1).trans rfl;have hfz31_0:=blk_frozen BK240.out 0;have hfz31_1:=blk_frozen BK240.out 1)|((with_reducible refine gate_callee (f:=36) rfl ?_);refine goesL_ (some 14) rfl rfl Tryz.func36 (by kernel_rfl) rfl #[.string a0_1,.string a1_1] rfl (by (try simp only [List.map_toArray,List.map_cons,List.map_nil]);first|done|rfl|(simp only [List.length_drop,List.length_take];rfl)) ?_;(with_reducible refine (natural_Compare.calls k a0_1 a1_1 t242 t243 _ A3.out).mono ?_);rintro e w32 ⟨rfl,hb⟩;refine ⟨_,rfl,?_⟩;have n0_:=Aside0.mk (blk_below (g:=gb239) (o:=.cells #[.bool a0_0,.string a0_1] 43 (0,0)) (by (with_reducible repeat (first|refine blk_drewN ?_ _|refine blk_drew ?_|refine blk_alloc ?_ _));exact BK239.out) hb);have n1_:=Aside0.mk (blk_below (g:=gb240) (o:=.cells #[.bool a1_0,.string a1_1] 43 (0,0)) (by (with_reducible repeat (first|refine blk_drewN ?_ _|refine blk_drew ?_|refine blk_alloc ?_ _));exact BK240.out) hb);have n2_:=Aside0.mk (blk_below (g:=gb241) (o:=.cells #[.bool false,.string (⟨#[]⟩:ByteArray)] 43 (0,0)) (by (with_reducible repeat (first|refine blk_drewN ?_ _|refine blk_drew ?_|refine blk_alloc ?_ _));exact BK241.out) hb);have n3_:=Aside0.mk (below_step (by repeat (first|(with_reducible first|exact HB.out|apply below_alloc|apply pw_below_drewN|apply below_drew1|refine below_set ?_ GE239.out|refine below_set ?_ GE240.out|refine below_set ?_ GE241.out)|exact HB.out)) hb);clear BK239;clear BK240;clear BK241;clear HB;have BK239:=n0_;have BK240:=n1_;have BK241:=n2_;have HB:=n3_;clear n0_ n1_ n2_ n3_;(try clear hb);(try clear hb2);(try clear hk);(try clear hi);have hcz33_0:w32.cell? ⟨gb239,0,none⟩ = some (.bool a0_0):=(blk_cell BK239.out 0).trans rfl;have hcz33_1:w32.cell? ⟨gb239,1,none⟩ = some (.string a0_1):=(blk_cell BK239.out 1).trans rfl;have hfz33_0:=blk_frozen BK239.out 0;have hfz33_1:=blk_frozen BK239.out 1;have hcz34_0:w32.cell? ⟨gb240,0,none⟩ = some (.bool a1_0):=(blk_cell BK240.out 0).trans rfl;have hcz34_1:w32.cell? ⟨gb240,1,none⟩ = some (.string a1_1):=(blk_cell BK240.out 1).trans rfl;have hfz34_0:=blk_frozen BK240.out 0;have hfz34_1:=blk_frozen BK240.out 1)|((with_reducible refine gate_callee (f:=85) rfl ?_);refine goesL_ (some 26) rfl rfl Tryz.func85 (by kernel_rfl) rfl #[.string a0_1,.string a1_1] rfl (by (try simp only [List.map_toArray,List.map_cons,List.map_nil]);first|done|rfl|(simp only [List.length_drop,List.length_take];rfl)) ?_;(with_reducible refine (natural_Sub.calls a0_1 a1_1 t248 t249 _ ?side1 A22.out).mono ?_);(case side1=>exact HLW.out.below (by repeat (first|(with_reducible first|exact HB.out|apply below_alloc|apply pw_below_drewN|apply below_drew1|refine below_set ?_ GE239.out|refine below_set ?_ GE240.out|refine below_set ?_ GE241.out)|exact HB.out)));rintro e w35 ⟨rfl,hb⟩;refine ⟨_,rfl,?_⟩;have n0_:=Aside0.mk (blk_below (g:=gb239) (o:=.cells #[.bool a0_0,.string a0_1] 43 (0,0)) (by (with_reducible repeat (first|refine blk_drewN ?_ _|refine blk_drew ?_|refine blk_alloc ?_ _));exact BK239.out) hb);have n1_:=Aside0.mk (blk_below (g:=gb240) (o:=.cells #[.bool a1_0,.string a1_1] 43 (0,0)) (by (with_reducible repeat (first|refine blk_drewN ?_ _|refine blk_drew ?_|refine blk_alloc ?_ _));exact BK240.out) hb);have n2_:=Aside0.mk (blk_below (g:=gb241) (o:=.cells #[.bool false,.string (⟨#[]⟩:ByteArray)] 43 (0,0)) (by (with_reducible repeat (first|refine blk_drewN ?_ _|refine blk_drew ?_|refine blk_alloc ?_ _));exact BK241.out) hb);have n3_:=Aside0.mk (below_step (by repeat (first|(with_reducible first|exact HB.out|apply below_alloc|apply pw_below_drewN|apply below_drew1|refine below_set ?_ GE239.out|refine below_set ?_ GE240.out|refine below_set ?_ GE241.out)|exact HB.out)) hb);clear BK239;clear BK240;clear BK241;clear HB;have BK239:=n0_;have BK240:=n1_;have BK241:=n2_;have HB:=n3_;clear n0_ n1_ n2_ n3_;(try clear hb);(try clear hb2);(try clear hk);(try clear hi);have hcz36_0:w35.cell? ⟨gb239,0,none⟩ = some (.bool a0_0):=(blk_cell BK239.out 0).trans rfl;have hcz36_1:w35.cell? ⟨gb239,1,none⟩ = some (.string a0_1):=(blk_cell BK239.out 1).trans rfl;have hfz36_0:=blk_frozen BK239.out 0;have hfz36_1:=blk_frozen BK239.out 1)|((with_reducible refine gate_callee (f:=62) rfl ?_);refine goesL_ (some 32) rfl rfl Tryz.func62 (by kernel_rfl) rfl #[.bool a0_0,.string t248] rfl (by (try simp only [List.map_toArray,List.map_cons,List.map_nil]);first|done|rfl|(simp only [List.length_drop,List.length_take];rfl)) ?_;(with_reducible refine (integer_with.calls a0_0 t248 t250 t251 _ A23.out).mono ?_);rintro e w37 ⟨rfl,hb⟩;refine ⟨_,rfl,?_⟩;have n0_:=Aside0.mk (blk_below (g:=gb239) (o:=.cells #[.bool a0_0,.string a0_1] 43 (0,0)) (by (with_reducible repeat (first|refine blk_drewN ?_ _|refine blk_drew ?_|refine blk_alloc ?_ _));exact BK239.out) hb);have n1_:=Aside0.mk (blk_below (g:=gb240) (o:=.cells #[.bool a1_0,.string a1_1] 43 (0,0)) (by (with_reducible repeat (first|refine blk_drewN ?_ _|refine blk_drew ?_|refine blk_alloc ?_ _));exact BK240.out) hb);have n2_:=Aside0.mk (blk_below (g:=gb241) (o:=.cells #[.bool false,.string (⟨#[]⟩:ByteArray)] 43 (0,0)) (by (with_reducible repeat (first|refine blk_drewN ?_ _|refine blk_drew ?_|refine blk_alloc ?_ _));exact BK241.out) hb);have n3_:=Aside0.mk (below_step (by repeat (first|(with_reducible first|exact HB.out|apply below_alloc|apply pw_below_drewN|apply below_drew1|refine below_set ?_ GE239.out|refine below_set ?_ GE240.out|refine below_set ?_ GE241.out)|exact HB.out)) hb);clear BK239;clear BK240;clear BK241;clear HB;have BK239:=n0_;have BK240:=n1_;have BK241:=n2_;have HB:=n3_;clear n0_ n1_ n2_ n3_;(try clear hb);(try clear hb2);(try clear hk);(try clear hi);have hcz38_0:w37.cell? ⟨gb241,0,none⟩ = some (.bool false):=(blk_cell BK241.out 0).trans rfl;have hcz38_1:w37.cell? ⟨gb241,1,none⟩ = some (.string (⟨#[]⟩:ByteArray)):=(blk_cell BK241.out 1).trans rfl;have hfz38_0:=blk_frozen BK241.out 0;have hfz38_1:=blk_frozen BK241.out 1))
  refine bodyPost_ret (results_cell_row rfl _ _ gb241 43 #[.bool t250,.string t251] (0,0) _ rfl (by (with_reducible repeat (first|refine blk_drewN ?_ _|refine blk_drew ?_|refine blk_alloc ?_ _));refine blk_put (cs:=#[.bool t250,.string (⟨#[]⟩:ByteArray)]) ?_ 1 _ rfl;(with_reducible repeat (first|refine blk_drewN ?_ _|refine blk_drew ?_|refine blk_alloc ?_ _));refine blk_put (cs:=#[.bool false,.string (⟨#[]⟩:ByteArray)]) ?_ 0 _ rfl;(with_reducible repeat (first|refine blk_drewN ?_ _|refine blk_drew ?_|refine blk_alloc ?_ _));exact BK241.out) Tryz.underlying43 rfl (by kernel_rfl)) rfl ?_
  exact ⟨by first|rfl|(simp [errW_none,errW_some]<;>rfl)|(simp [*,errW_none,errW_some]<;>rfl),by repeat (first|(with_reducible first|exact HB.out|apply below_alloc|apply pw_below_drewN|apply below_drew1|refine below_set ?_ GE239.out|refine below_set ?_ GE240.out|refine below_set ?_ GE241.out)|exact HB.out)⟩
end Go.Proofs.YtaknchlegjcdhaaGreatDoor.Pr
set_option linter.unusedVariables false
set_option linter.unusedSimpArgs false
namespace Go.Proofs.YtaknchlegjcdhaaGreatDoor.Pr
open Go.RowKit Go.Lib Go.Proofs.YtaknchlegjcdhaaGreatDoorW.PrintWords Go.Proofs.YtaknchlegjcdhaaGreatDoorW.PrintLast Go.Proofs.YtaknchlegjcdhaaGreatDoorW.PrintMore Go.Proofs.YtaknchlegjcdhaaGreatDoor.NatTh
def zn (b:Bool) (n:Nat):Int:=if b = true then -(n:Int) else n
def zp (z:Int):Bool × ByteArray:=(decide (z < 0),num z.natAbs)
def integer_number_plus.f (a0:Bool) (a1:ByteArray) (b0:Bool) (b1:ByteArray):Option (Bool × ByteArray) :=
 if (nv a1 && nv b1) = true∧Sh a1∧Sh b1 then some (zp (zn a0 (nat a1) + zn b0 (nat b1))) else none
theorem with_eq (b:Bool) (n:Nat):integer_with.f b (num n) = some (zp (zn b n)):=by
 unfold integer_with.f zp zn
 cases b with
 | false=>simp
 | true =>
  simp only [if_true]
  rw [show ((num n).toList != ([48]:List UInt8)) = decide (-(n:Int) < 0) by
   rw [bne,beq0]
   by_cases h:n = 0
   ·subst h;rfl
   ·rw [decide_eq_false h,decide_eq_true (by omega)];rfl,show (-(n:Int)).natAbs = n by omega]
theorem sum_eq (b:Bool) {m n:Nat} (hm:Sh (num m)) (hn:Sh (num n)):integer_sum.f b (num m) b (num n) = some (zp (zn b m + zn b n)):=by
 unfold integer_sum.f
 rw [add_f hm hn,Option.bind_some]
 dsimp only
 rw [with_eq,Option.bind_some]
 have:zn b (m + n) = zn b m + zn b n:=by
  unfold zn
  split<;>omega
 rw [this]
theorem diff_ev (b:Bool) {m n:Nat} (hm:Sh (num m)) (hn:Sh (num n)):Ev (fun k=>integer_difference.f k b (num m) (!b) (num n)) (zp (zn b m + zn (!b) n)):=by
 refine Ev.congr (fun k=>rfl) (Ev.bind (cmp_e hm hn) ?_)
 by_cases h:m < n
 ·refine Ev.congr (fun k=>?_) (Ev.now _)
  dsimp only
  rw [ord_lt h,if_pos (by omega),sub_f hn hm,if_neg (by omega),Option.bind_some]
  dsimp only
  rw [with_eq,Option.bind_some]
  have:zn (!b) (n - m) = zn b m + zn (!b) n:=by
   unfold zn
   cases b<;>simp<;>omega
  rw [this]
 ·refine Ev.congr (fun k=>?_) (Ev.now _)
  dsimp only
  rw [if_neg (fun e=>h ((ord_neg m n).1 e)),sub_f hm hn,if_neg h,Option.bind_some]
  dsimp only
  rw [with_eq,Option.bind_some]
  have:zn b (m - n) = zn b m + zn (!b) n:=by
   unfold zn
   cases b<;>simp<;>omega
  rw [this]
end Go.Proofs.YtaknchlegjcdhaaGreatDoor.Pr
namespace Go.Proofs.YtaknchlegjcdhaaGreatDoor.Pr
open Go.RowKit Go.Proofs.YtaknchlegjcdhaaGreatDoorW.PrintWords Go.Proofs.YtaknchlegjcdhaaGreatDoorW.PrintLast Go.Proofs.YtaknchlegjcdhaaGreatDoorW.PrintMore
attribute [local go_sem] max2_int min2_int max_two min_two max_three min_three max_four min_four
set_option linter.unusedVariables false
set_option linter.unusedSimpArgs false
theorem eqA43 (d:Nat) (w:World) (x0 y0:Bool) (x1 y1:ByteArray) :
  (Op.equalIn (d + 2) 43 (.agg #[.bool x0,.string x1]) (.agg #[.bool y0,.string y1])).run Tryz.prog w = .ok (x0 == y0 && (x1.toList == y1.toList)) w:=by
 refine eqA_of Tryz.underlying43 (by kernel_rfl) ?_
 refine eqf_cons (by rfl) (by go_simp;rfl) (by go_simp;rfl) (by go_simp) ?_
 exact eqf_last (by rfl) (by go_simp;rfl) (by go_simp;rfl) (by go_simp)
end Go.Proofs.YtaknchlegjcdhaaGreatDoor.Pr
namespace Go.Proofs.YtaknchlegjcdhaaGreatDoor.Pr
open Go.RowKit Go.Proofs.YtaknchlegjcdhaaGreatDoorW.PrintWords Go.Proofs.YtaknchlegjcdhaaGreatDoorW.PrintLast Go.Proofs.YtaknchlegjcdhaaGreatDoorW.PrintMore
attribute [local go_sem] max2_int min2_int max_two min_two max_three min_three max_four min_four
set_option linter.unusedVariables false
set_option linter.unusedSimpArgs false
def stringslite_HasPrefix.f (a0:ByteArray) (a1:ByteArray):Option (Bool):=if (a0.size:Int) ≥ (a1.size:Int) then (if 0≤(a1.size:Int) then (if (a1.size:Int)≤(a0.size:Int) then (some ((a0.extract 0 ((a1.size:Int):Int).toNat).toList == a1.toList)) else (none)) else (none)) else (some false)
set_option maxHeartbeats 8000000 in
set_option maxRecDepth 100000 in
theorem stringslite_HasPrefix.calls (a0:ByteArray) (a1:ByteArray) (r:Bool) (w:World) (h:stringslite_HasPrefix.f a0 a1 = some r) :
  Calls Tryz.prog 123 #[.string a0,.string a1] w fun e w'=>e = .returned (.bool r)∧Drawn0 w w':=by
 have H:(if (a0.size:Int) ≥ (a1.size:Int) then (if 0≤(a1.size:Int) then (if (a1.size:Int)≤(a0.size:Int) then (some ((a0.extract 0 ((a1.size:Int):Int).toNat).toList == a1.toList)) else (none)) else (none)) else (some false)) = some r:=h
 clear h
 by_cases c3:(a0.size:Int) ≥ (a1.size:Int)
 ·rw [if_pos c3] at H
  have c3b0:decide ((a1.size:Int)≤(a0.size:Int)) = true:=decide_eq_true c3
  have c3b1:decide (a1.size≤a0.size) = true:=decide_eq_true (Int.ofNat_le.mp c3)
  clear c3
  by_cases c4:0≤(a1.size:Int)
  ·rw [if_pos c4] at H
   have c4b0:=eq_true c4
   have c4b1:decide (0≤(a1.size:Int)) = true:=decide_eq_true c4
   clear c4
   by_cases c5:(a1.size:Int)≤(a0.size:Int)
   ·rw [if_pos c5] at H
    have c5b0:=eq_true c5
    have c5b1:decide ((a1.size:Int)≤(a0.size:Int)) = true:=decide_eq_true c5
    clear c5
    obtain rfl:=Option.some.inj H
    go_enter Tryz.func123,Tryz.ntmps123
    go_wp2
    go_ret
    exact ⟨by first|rfl|(simp;done)|(simp [*];done),by repeat (first|exact Drawn0.refl _|apply Drawn0.step)⟩
   ·rw [if_neg c5] at H
    exact absurd H (by simp)
  ·rw [if_neg c4] at H
   exact absurd H (by simp)
 ·rw [if_neg c3] at H
  have c3b0:decide ((a1.size:Int)≤(a0.size:Int)) = false:=decide_eq_false c3
  have c3b1:decide (a1.size≤a0.size) = false:=decide_eq_false (fun h=>c3 (Int.ofNat_le.mpr h))
  clear c3
  obtain rfl:=Option.some.inj H
  go_enter Tryz.func123,Tryz.ntmps123
  go_wp2
  go_ret
  exact ⟨by first|rfl|(simp;done)|(simp [*];done),by repeat (first|exact Drawn0.refl _|apply Drawn0.step)⟩
end Go.Proofs.YtaknchlegjcdhaaGreatDoor.Pr
namespace Go.Proofs.YtaknchlegjcdhaaGreatDoor.Pr
open Go.RowKit Go.Proofs.YtaknchlegjcdhaaGreatDoorW.PrintWords Go.Proofs.YtaknchlegjcdhaaGreatDoorW.PrintLast Go.Proofs.YtaknchlegjcdhaaGreatDoorW.PrintMore
attribute [local go_sem] max2_int min2_int max_two min_two max_three min_three max_four min_four
set_option linter.unusedVariables false
set_option linter.unusedSimpArgs false
def stringslite_CutPrefix.f (a0:ByteArray) (a1:ByteArray):Option (ByteArray × Bool):=(stringslite_HasPrefix.f a0 a1).bind fun t101=>(if t101 = true then (if 0≤(a1.size:Int) then (if (a1.size:Int)≤(a0.size:Int) then (some (a0.extract ((a1.size:Int):Int).toNat a0.size,true)) else (none)) else (none)) else (some (a0,false)))
set_option maxHeartbeats 8000000 in
set_option maxRecDepth 100000 in
theorem stringslite_CutPrefix.calls (a0:ByteArray) (a1:ByteArray) (r1:ByteArray) (r2:Bool) (w:World) (h:stringslite_CutPrefix.f a0 a1 = some (r1,r2)) :
  Calls Tryz.prog 104 #[.string a0,.string a1] w fun e w'=>e = .returned (.tuple #[.string r1,.bool r2])∧Drawn0 w w':=by
 have H:((stringslite_HasPrefix.f a0 a1).bind fun t101=>(if t101 = true then (if 0≤(a1.size:Int) then (if (a1.size:Int)≤(a0.size:Int) then (some (a0.extract ((a1.size:Int):Int).toNat a0.size,true)) else (none)) else (none)) else (some (a0,false)))) = some (r1,r2):=h
 clear h
 replace H:=Option.bind_eq_some_iff.mp H
 obtain ⟨t101,A30,H⟩:=H
 replace H:(if t101 = true then (if 0≤(a1.size:Int) then (if (a1.size:Int)≤(a0.size:Int) then (some (a0.extract ((a1.size:Int):Int).toNat a0.size,true)) else (none)) else (none)) else (some (a0,false))) = some (r1,r2):=H
 have A3:=Aside0.mk A30
 clear A30
 by_cases c4:t101 = true
 ·subst c4
  have H1:(if 0≤(a1.size:Int) then (if (a1.size:Int)≤(a0.size:Int) then (some (a0.extract ((a1.size:Int):Int).toNat a0.size,true)) else (none)) else (none)) = some (r1,r2):=by rw [if_pos rfl] at H;exact H
  clear H
  have H:=H1
  clear H1
  by_cases c5:0≤(a1.size:Int)
  ·rw [if_pos c5] at H
   have c5b0:=eq_true c5
   have c5b1:decide (0≤(a1.size:Int)) = true:=decide_eq_true c5
   clear c5
   by_cases c6:(a1.size:Int)≤(a0.size:Int)
   ·rw [if_pos c6] at H
    have c6b0:=eq_true c6
    have c6b1:decide ((a1.size:Int)≤(a0.size:Int)) = true:=decide_eq_true c6
    clear c6
    simp only [Option.some.injEq,Prod.mk.injEq] at H
    obtain ⟨rfl,rfl⟩:=H
    go_enter Tryz.func104,Tryz.ntmps104
    go_wp2_with (first|((with_reducible refine gate_callee (f:=123) rfl ?_);refine goesL_ (some 8) rfl rfl Tryz.func123 (by kernel_rfl) rfl #[.string a0,.string a1] rfl (by (try simp only [List.map_toArray,List.map_cons,List.map_nil]);first|done|rfl|(simp only [List.length_drop,List.length_take];rfl)) ?_;(with_reducible refine (stringslite_HasPrefix.calls a0 a1 true _ A3.out).mono ?_);rintro e w' ⟨rfl,⟨nd,rfl⟩⟩;refine ⟨_,rfl,?_⟩))
    go_ret2
    exact ⟨by first|rfl|(simp;done)|(simp [*];done),by repeat (first|exact Drawn0.refl _|apply Drawn0.step)⟩
   ·rw [if_neg c6] at H
    exact absurd H (by simp)
  ·rw [if_neg c5] at H
   exact absurd H (by simp)
 ·replace c4:=Bool.eq_false_iff.mpr c4
  subst c4
  have H1:(some (a0,false)) = some (r1,r2):=by rw [if_neg (show ¬ (false = true) by decide)] at H;exact H
  clear H
  have H:=H1
  clear H1
  simp only [Option.some.injEq,Prod.mk.injEq] at H
  obtain ⟨rfl,rfl⟩:=H
  go_enter Tryz.func104,Tryz.ntmps104
  go_wp2_with (first|((with_reducible refine gate_callee (f:=123) rfl ?_);refine goesL_ (some 8) rfl rfl Tryz.func123 (by kernel_rfl) rfl #[.string a0,.string a1] rfl (by (try simp only [List.map_toArray,List.map_cons,List.map_nil]);first|done|rfl|(simp only [List.length_drop,List.length_take];rfl)) ?_;(with_reducible refine (stringslite_HasPrefix.calls a0 a1 false _ A3.out).mono ?_);rintro e w' ⟨rfl,⟨nd,rfl⟩⟩;refine ⟨_,rfl,?_⟩))
  go_ret2
  exact ⟨by first|rfl|(simp;done)|(simp [*];done),by repeat (first|exact Drawn0.refl _|apply Drawn0.step)⟩
end Go.Proofs.YtaknchlegjcdhaaGreatDoor.Pr
namespace Go.Proofs.YtaknchlegjcdhaaGreatDoor.Pr
open Go.RowKit Go.Proofs.YtaknchlegjcdhaaGreatDoorW.PrintWords Go.Proofs.YtaknchlegjcdhaaGreatDoorW.PrintLast Go.Proofs.YtaknchlegjcdhaaGreatDoorW.PrintMore
attribute [local go_sem] max2_int min2_int max_two min_two max_three min_three max_four min_four
set_option linter.unusedVariables false
set_option linter.unusedSimpArgs false
def strings_CutPrefix.f (a0:ByteArray) (a1:ByteArray):Option (ByteArray × Bool):=(stringslite_CutPrefix.f a0 a1).bind fun bt102=>(some (bt102.1,bt102.2))
set_option maxHeartbeats 8000000 in
set_option maxRecDepth 100000 in
theorem strings_CutPrefix.calls (a0:ByteArray) (a1:ByteArray) (r1:ByteArray) (r2:Bool) (w:World) (h:strings_CutPrefix.f a0 a1 = some (r1,r2)) :
  Calls Tryz.prog 73 #[.string a0,.string a1] w fun e w'=>e = .returned (.tuple #[.string r1,.bool r2])∧Drawn0 w w':=by
 have H:((stringslite_CutPrefix.f a0 a1).bind fun bt102=>(some (bt102.1,bt102.2))) = some (r1,r2):=h
 clear h
 replace H:=Option.bind_eq_some_iff.mp H
 obtain ⟨⟨t102,t103⟩,A30,H⟩:=H
 replace H:(some (t102,t103)) = some (r1,r2):=H
 have A3:=Aside0.mk A30
 clear A30
 simp only [Option.some.injEq,Prod.mk.injEq] at H
 obtain ⟨rfl,rfl⟩:=H
 go_enter Tryz.func73,Tryz.ntmps73
 go_wp2_with (first|((with_reducible refine gate_callee (f:=104) rfl ?_);refine goesL_ (some 8) rfl rfl Tryz.func104 (by kernel_rfl) rfl #[.string a0,.string a1] rfl (by (try simp only [List.map_toArray,List.map_cons,List.map_nil]);first|done|rfl|(simp only [List.length_drop,List.length_take];rfl)) ?_;(with_reducible refine (stringslite_CutPrefix.calls a0 a1 t102 t103 _ A3.out).mono ?_);rintro e w' ⟨rfl,⟨nd,rfl⟩⟩;refine ⟨_,rfl,?_⟩))
 go_ret2
 exact ⟨by first|rfl|(simp;done)|(simp [*];done),by repeat (first|exact Drawn0.refl _|apply Drawn0.step)⟩
end Go.Proofs.YtaknchlegjcdhaaGreatDoor.Pr
namespace Go.Proofs.YtaknchlegjcdhaaGreatDoor.Pr
open Go.RowKit Go.Proofs.YtaknchlegjcdhaaGreatDoorW.PrintWords Go.Proofs.YtaknchlegjcdhaaGreatDoorW.PrintLast Go.Proofs.YtaknchlegjcdhaaGreatDoorW.PrintMore
attribute [local go_sem] max2_int min2_int max_two min_two max_three min_three max_four min_four
set_option linter.unusedVariables false
set_option linter.unusedSimpArgs false
attribute [local go_sem high] eqA43
def integer_read.f (k:Nat) (a0:ByteArray):Option (Bool × ByteArray × Bool):=(strings_CutPrefix.f a0 (⟨#[45]⟩:ByteArray)).bind fun bt105=>((natural_Valid.f k bt105.1).bind fun t108=>(if t108 = true then (some (bt105.2,bt105.1,(!bt105.2 || (!(bt105.1.toList == ([48]:List UInt8)))))) else (some (bt105.2,bt105.1,false))))
theorem integer_read.mono:∀ a0 k,LeO (integer_read.f k a0) (integer_read.f (k + 1) a0):=by
 intro a0 k
 unfold integer_read.f
 repeat' first
   | (with_reducible exact natural_Valid.mono _ _)
   | (with_reducible exact LeO.refl _)
   | (with_reducible exact LeO.none _)
   | (with_reducible refine LeO.ite ?_ ?_)
   | (with_reducible refine LeO.bind ?_ (fun _=>?_))
   | exact natural_Valid.mono _ _
   | exact LeO.none _
   | refine LeO.ite ?_ ?_
   | refine LeO.bind ?_ (fun _=>?_)
def integer_read.T3:Bool × List (List Nat × List Nat):=(true,[([],[]),([],[]),([1],[1]),([2,2],[2]),([3],[3]),([3],[3]),([4,5,3],[3,4,5]),([3,6],[3,6]),([0,3,0],[0]),([7,8,0,1,2,3,4,5,6,7,8],[7])])
def integer_read.B3:List Nat:=[0,0,2,6,14,14,62,126,15,511]
theorem integer_read.tab3:rtab .any (opsOf Tryz.f48 3) = integer_read.T3:=by kernel_rfl
theorem integer_read.bits3:waitsOk integer_read.T3.2 integer_read.B3 = true:=by kernel_rfl
set_option maxHeartbeats 8000000 in
set_option maxRecDepth 100000 in
theorem integer_read.calls (k:Nat) (a0:ByteArray) (r1:Bool) (r2:ByteArray) (r3:Bool) (w:World) (h:integer_read.f k a0 = some (r1,r2,r3)) :
  Calls Tryz.prog 48 #[.string a0] w fun e w'=>e = .returned (.tuple #[.agg #[.bool r1,.string r2],.bool r3])∧Below w.heap.size w w':=by
 have hu43:=Tryz.underlying43
 have HB:=Aside0.mk (Below.refl w.heap.size w)
 have H:((strings_CutPrefix.f a0 (⟨#[45]⟩:ByteArray)).bind fun bt105=>((natural_Valid.f k bt105.1).bind fun t108=>(if t108 = true then (some (bt105.2,bt105.1,(!bt105.2 || (!(bt105.1.toList == ([48]:List UInt8)))))) else (some (bt105.2,bt105.1,false))))) = some (r1,r2,r3):=h
 clear h
 replace H:=Option.bind_eq_some_iff.mp H
 obtain ⟨⟨t105,t106⟩,A20,H⟩:=H
 replace H:((natural_Valid.f k t105).bind fun t108=>(if t108 = true then (some (t106,t105,(!t106 || (!(t105.toList == ([48]:List UInt8)))))) else (some (t106,t105,false)))) = some (r1,r2,r3):=H
 have A2:=Aside0.mk A20
 clear A20
 replace H:=Option.bind_eq_some_iff.mp H
 obtain ⟨t108,A30,H⟩:=H
 replace H:(if t108 = true then (some (t106,t105,(!t106 || (!(t105.toList == ([48]:List UInt8)))))) else (some (t106,t105,false))) = some (r1,r2,r3):=H
 have A3:=Aside0.mk A30
 clear A30
 by_cases c4:t108 = true
 ·subst c4
  have H1:(some (t106,t105,(!t106 || (!(t105.toList == ([48]:List UInt8)))))) = some (r1,r2,r3):=by rw [if_pos rfl] at H;exact H
  clear H
  have H:=H1
  clear H1
  simp only [Option.some.injEq,Prod.mk.injEq] at H
  obtain ⟨rfl,rfl,rfl⟩:=H
  go_enter Tryz.func48,Tryz.ntmps48
  try go_wp2_with (first|((with_reducible refine gate_dst (N:=2) rfl ?_);refine box_event ?hg (N:=2) ?hd (cs:=#[.bool false,.string (⟨#[]⟩:ByteArray)]) (t:=43) ?hr ?_;(case hd=>rfl);(case hg=>rfl);(case hr=>first|(go_simp;done)|(go_simp;rfl));intro gb104 hg w5 hbox hb;have n0_:=Aside0.mk (below_step (by repeat (first|(with_reducible first|exact HB.out|apply below_alloc|apply pw_below_drewN|apply below_drew1)|exact HB.out)) hb);have n1_:=Aside0.mk (hbox);have n2_:=Aside0.mk ((by rw [hg];exact (below_size (by repeat (first|(with_reducible first|exact HB.out|apply below_alloc|apply pw_below_drewN|apply below_drew1)|exact HB.out))):w.heap.size≤gb104));have n3_:=Aside0.mk ((by rw [hg];exact (below_size (by repeat (first|(with_reducible first|exact HB.out|apply below_alloc|apply pw_below_drewN|apply below_drew1)|exact HB.out))):w.heap.size≤gb104));clear HB;have HB:=n0_;have BK104:=n1_;have GW104:=n2_;have GE104:=n3_;clear n0_ n1_ n2_ n3_;clear hb hbox hg)|((with_reducible refine gate_callee (f:=73) rfl ?_);refine goesL_ (some 9) rfl rfl Tryz.func73 (by kernel_rfl) rfl #[.string a0,.string (⟨#[45]⟩:ByteArray)] rfl (by (try simp only [List.map_toArray,List.map_cons,List.map_nil]);first|done|rfl|(simp only [List.length_drop,List.length_take];rfl)) ?_;(with_reducible refine (strings_CutPrefix.calls a0 (⟨#[45]⟩:ByteArray) t105 t106 _ A2.out).mono ?_);rintro e w' ⟨rfl,⟨nd,rfl⟩⟩;refine ⟨_,rfl,?_⟩;(try (rw [drewN_self w5];generalize hq_:World.drewN w5 _ = w5;have n0_:Aside0 (w5.heap[gb104]? = some (.cells #[.bool false,.string (⟨#[]⟩:ByteArray)] 43 (0,0))):=⟨by rw [← hq_];exact (by (with_reducible repeat (first|refine blk_drewN ?_ _|refine blk_drew ?_|refine blk_alloc ?_ _));exact BK104.out)⟩;have n1_:Aside0 (Below w.heap.size w w5):=⟨by rw [← hq_];exact (by repeat (first|(with_reducible first|exact HB.out|apply below_alloc|apply pw_below_drewN|apply below_drew1|refine below_set ?_ GE104.out)|exact HB.out))⟩;clear BK104 HB hq_;have BK104:=n0_;have HB:=n1_;clear n0_ n1_)))|((with_reducible refine gate_dst (N:=6) rfl ?_);refine box_event ?hg (N:=6) ?hd (cs:=#[.bool false,.string (⟨#[]⟩:ByteArray)]) (t:=43) ?hr ?_;(case hd=>rfl);(case hg=>rfl);(case hr=>first|(go_simp;done)|(go_simp;rfl));intro gb107 hg w6 hbox hb;have n0_:=Aside0.mk (blk_below (g:=gb104) (o:=.cells #[.bool false,.string (⟨#[]⟩:ByteArray)] 43 (0,0)) (by (with_reducible repeat (first|refine blk_drewN ?_ _|refine blk_drew ?_|refine blk_alloc ?_ _));exact BK104.out) hb);have n1_:=Aside0.mk (below_step (by repeat (first|(with_reducible first|exact HB.out|apply below_alloc|apply pw_below_drewN|apply below_drew1|refine below_set ?_ GE104.out)|exact HB.out)) hb);have n2_:=Aside0.mk (hbox);have n3_:=Aside0.mk ((by rw [hg];exact (below_size (by repeat (first|(with_reducible first|exact HB.out|apply below_alloc|apply pw_below_drewN|apply below_drew1|refine below_set ?_ GE104.out)|exact HB.out))):w.heap.size≤gb107));have n4_:=Aside0.mk ((by rw [hg];exact (below_size (by repeat (first|(with_reducible first|exact HB.out|apply below_alloc|apply pw_below_drewN|apply below_drew1|refine below_set ?_ GE104.out)|exact HB.out))):w.heap.size≤gb107));have n5_:=Aside0.mk ((by rw [hg];exact Nat.ne_of_lt (blk_lt (g:=gb104) (o:=.cells #[.bool false,.string (⟨#[]⟩:ByteArray)] 43 (0,0)) (by (with_reducible repeat (first|refine blk_drewN ?_ _|refine blk_drew ?_|refine blk_alloc ?_ _));exact BK104.out)):gb104≠gb107));have n6_:=Aside0.mk ((by rw [hg];exact Nat.ne_of_gt (blk_lt (g:=gb104) (o:=.cells #[.bool false,.string (⟨#[]⟩:ByteArray)] 43 (0,0)) (by (with_reducible repeat (first|refine blk_drewN ?_ _|refine blk_drew ?_|refine blk_alloc ?_ _));exact BK104.out)):gb107≠gb104));clear BK104;clear HB;have BK104:=n0_;have HB:=n1_;have BK107:=n2_;have GW107:=n3_;have GE107:=n4_;have NB104_107:=n5_;have NB107_104:=n6_;clear n0_ n1_ n2_ n3_ n4_ n5_ n6_;clear hb hbox hg;have hnb7:=NB107_104.out;have hnc7:=NB104_107.out;have hcz8_0:w6.cell? ⟨gb107,0,none⟩ = some (.bool false):=(blk_cell BK107.out 0).trans rfl;have hcz8_1:w6.cell? ⟨gb107,1,none⟩ = some (.string (⟨#[]⟩:ByteArray)):=(blk_cell BK107.out 1).trans rfl;have hfz8_0:=blk_frozen BK107.out 0;have hfz8_1:=blk_frozen BK107.out 1))
  have n0_:Aside0 (((w6.setCell ⟨gb107,0,none⟩ (.bool t106)).setCell ⟨gb107,1,none⟩ (.string t105)).heap[gb104]? = some (.cells #[.bool false,.string (⟨#[]⟩:ByteArray)] 43 (0,0))):=⟨by (with_reducible repeat (first|refine blk_drewN ?_ _|refine blk_drew ?_|refine blk_alloc ?_ _));refine blk_far ?_ NB104_107.out _;(with_reducible repeat (first|refine blk_drewN ?_ _|refine blk_drew ?_|refine blk_alloc ?_ _));refine blk_far ?_ NB104_107.out _;(with_reducible repeat (first|refine blk_drewN ?_ _|refine blk_drew ?_|refine blk_alloc ?_ _));exact BK104.out⟩
  have n1_:Aside0 (((w6.setCell ⟨gb107,0,none⟩ (.bool t106)).setCell ⟨gb107,1,none⟩ (.string t105)).heap[gb107]? = some (.cells #[.bool t106,.string t105] 43 (0,0))):=⟨by (with_reducible repeat (first|refine blk_drewN ?_ _|refine blk_drew ?_|refine blk_alloc ?_ _));refine blk_put (cs:=#[.bool t106,.string (⟨#[]⟩:ByteArray)]) ?_ 1 _ rfl;(with_reducible repeat (first|refine blk_drewN ?_ _|refine blk_drew ?_|refine blk_alloc ?_ _));refine blk_put (cs:=#[.bool false,.string (⟨#[]⟩:ByteArray)]) ?_ 0 _ rfl;(with_reducible repeat (first|refine blk_drewN ?_ _|refine blk_drew ?_|refine blk_alloc ?_ _));exact BK107.out⟩
  have n2_:Aside0 (Below w.heap.size w ((w6.setCell ⟨gb107,0,none⟩ (.bool t106)).setCell ⟨gb107,1,none⟩ (.string t105))):=⟨by repeat (first|(with_reducible first|exact HB.out|apply below_alloc|apply pw_below_drewN|apply below_drew1|refine below_set ?_ GE104.out|refine below_set ?_ GE107.out)|exact HB.out)⟩
  (try clear BK104)
  (try clear BK107)
  (try clear HB)
  generalize ((w6.setCell ⟨gb107,0,none⟩ (.bool t106)).setCell ⟨gb107,1,none⟩ (.string t105)) = w9 at n0_ n1_ n2_ ⊢
  have BK104:=n0_
  have BK107:=n1_
  have HB:=n2_
  clear n0_ n1_ n2_
  have n0_:=Aside0.mk (blk_drew BK104.out)
  have n1_:=Aside0.mk (blk_drew BK107.out)
  have n2_:=Aside0.mk (below_drew1 HB.out)
  clear BK104
  clear BK107
  clear HB
  have BK104:=n0_
  have BK107:=n1_
  have HB:=n2_
  clear n0_ n1_ n2_
  refine start_ (n:=10) (S:=fun w'=>w'.cell? ⟨gb107,0,none⟩ = some (.bool t106)∧w'.cell? ⟨gb107,1,none⟩ = some (.string t105)) (ds:=[]) #[false,false,false,false,false,false,false,false,false,false] (by kernel_rfl) rfl rfl ⟨(blk_cell BK107.out 0).trans rfl,(blk_cell BK107.out 1).trans rfl⟩ (fun hHeld=>?_);refine with_tabW integer_read.tab3 integer_read.bits3 (fun HT_ HW_=>?_)
  generalize w9.drew = w10 at BK104 BK107 HB hHeld ⊢
  refine pure_ (i:=1) (N:=some 16) (v:=?_) (a':=?_) #[false,true,false,false,false,false,false,false,false,false] rfl rfl (any_of HT_.out (by kernel_rfl)) (fun _ _ _ h=>h) (Or.inl ⟨by rfl,?_⟩) ?_ ?_
  rotate_left
  ·intro w'
   go_simp
   with_reducible rfl
  rotate_left
  ·simp only [Act.put,List.setIfInBounds_toArray,List.set_cons_zero,List.set_cons_succ,i64_w,i32_w]
   rfl
  refine take_ (i:=0) (N:=some 15) (v:=?_) (a':=?_) #[true,true,false,false,false,false,false,false,false,false] rfl rfl (take_ofW HT_.out HW_.out (by kernel_rfl)) (fun _ _ _ h=>h) (Or.inl ⟨by rfl,?_⟩) hHeld ?_ ?_
  rotate_left
  ·rintro w' ⟨s0,s1⟩
   go_simp
   with_reducible rfl
  rotate_left
  ·simp only [Act.put,List.setIfInBounds_toArray,List.set_cons_zero,List.set_cons_succ,i64_w,i32_w]
   rfl
  refine one_ (i:=2) (N:=some 17) #[true,true,true,false,false,false,false,false,false,false] rfl rfl (one_of HT_.out (by kernel_rfl)) (by decide) (fun K hK=>?_)
  refine goes_ Tryz.func74 (by kernel_rfl) rfl #[.string t105] (by rfl) rfl rfl (by (try simp only [List.map_toArray,List.map_cons,List.map_nil]);first|done|rfl|(simp only [List.length_drop,List.length_take];rfl)) ?_
  with_reducible refine (natural_Valid.calls k t105 true _ A3.out).mono ?_
  rintro e w' ⟨rfl,⟨nd,rfl⟩⟩
  refine ⟨_,rfl,?_⟩
  refine hK.out _ _ ⟨(blk_cell BK107.out 0).trans rfl,(blk_cell BK107.out 1).trans rfl⟩ (fun hHeld=>?_)
  clear hK K
  refine norm_ (a':=?_) ?_ ?_
  rotate_left
  ·show Act.put _ (some 17) _ = _
   simp only [Act.put,List.setIfInBounds_toArray,List.set_cons_zero,List.set_cons_succ,i64_w,i32_w]
   rfl
  refine pure_ (i:=3) (N:=some 18) (v:=?_) (a':=?_) #[true,true,true,true,false,false,false,false,false,false] rfl rfl (any_of HT_.out (by kernel_rfl)) (fun _ _ _ h=>h) (Or.inl ⟨by rfl,?_⟩) ?_ ?_
  rotate_left
  ·intro w'
   go_simp
   with_reducible rfl
  rotate_left
  ·simp only [Act.put,List.setIfInBounds_toArray,List.set_cons_zero,List.set_cons_succ,i64_w,i32_w]
   rfl
  refine pure_ (i:=5) (N:=some 20) (v:=?_) (a':=?_) #[true,true,true,true,false,true,false,false,false,false] rfl rfl (any_of HT_.out (by kernel_rfl)) (fun _ _ _ h=>h) (Or.inl ⟨by rfl,?_⟩) ?_ ?_
  rotate_left
  ·intro w'
   go_simp
   with_reducible rfl
  rotate_left
  ·simp only [Act.put,List.setIfInBounds_toArray,List.set_cons_zero,List.set_cons_succ,i64_w,i32_w]
   rfl
  refine take_ (i:=4) (N:=some 19) (v:=?_) (a':=?_) #[true,true,true,true,true,true,false,false,false,false] rfl rfl (take_ofW HT_.out HW_.out (by kernel_rfl)) (fun _ _ _ h=>h) (Or.inl ⟨by rfl,?_⟩) hHeld ?_ ?_
  rotate_left
  ·rintro w' ⟨s0,s1⟩
   go_simp
   with_reducible rfl
  rotate_left
  ·simp only [Act.put,List.setIfInBounds_toArray,List.set_cons_zero,List.set_cons_succ,i64_w,i32_w]
   rfl
  refine pure_ (i:=6) (N:=some 21) (v:=?_) (a':=?_) #[true,true,true,true,true,true,true,false,false,false] rfl rfl (any_of HT_.out (by kernel_rfl)) (fun _ _ _ h=>h) (Or.inl ⟨by rfl,?_⟩) ?_ ?_
  rotate_left
  ·intro w'
   go_simp
   with_reducible rfl
  rotate_left
  ·simp only [Act.put,List.setIfInBounds_toArray,List.set_cons_zero,List.set_cons_succ,i64_w,i32_w]
   rfl
  refine pure_ (i:=7) (N:=some 22) (v:=?_) (a':=?_) #[true,true,true,true,true,true,true,true,false,false] rfl rfl (any_of HT_.out (by kernel_rfl)) (fun _ _ _ h=>h) (Or.inl ⟨by rfl,?_⟩) ?_ ?_
  rotate_left
  ·intro w'
   go_simp
   with_reducible rfl
  rotate_left
  ·simp only [Act.put,List.setIfInBounds_toArray,List.set_cons_zero,List.set_cons_succ,i64_w,i32_w]
   rfl
  refine one_ (i:=8) (N:=none) #[true,true,true,true,true,true,true,true,true,false] rfl rfl (one_of HT_.out (by kernel_rfl)) (by decide) (fun K hK=>?_)
  have hs11:w10.cell? ⟨gb104,0,none⟩ = some (.bool false):=(blk_cell BK104.out 0).trans rfl
  have hfs11:=blk_frozen BK104.out 0
  have hns11_1:=NB107_104.out
  have hms11_1:=NB104_107.out
  have hs12:w10.cell? ⟨gb104,1,none⟩ = some (.string (⟨#[]⟩:ByteArray)):=(blk_cell BK104.out 1).trans rfl
  have hfs12:=blk_frozen BK104.out 1
  have hns12_1:=NB107_104.out
  have hms12_1:=NB104_107.out
  refine skip_ (w1:=?_) (by rfl) rfl ?_ ?_
  rotate_left
  ·go_simp
   rfl
  refine hK.out _ _ ⟨((cell_far (p:=⟨gb104,_,none⟩) NB107_104.out _).trans (((cell_far (p:=⟨gb104,_,none⟩) NB107_104.out _).trans (hHeld.1)))),((cell_far (p:=⟨gb104,_,none⟩) NB107_104.out _).trans (((cell_far (p:=⟨gb104,_,none⟩) NB107_104.out _).trans (hHeld.2))))⟩ (fun hHeld=>?_)
  clear hK K
  refine pure_ (i:=9) (N:=some 3) (v:=?_) (a':=?_) #[true,true,true,true,true,true,true,true,true,true] rfl rfl (any_of HT_.out (by kernel_rfl)) (fun _ _ _ h=>h) (Or.inl ⟨by rfl,?_⟩) ?_ ?_
  rotate_left
  ·intro w'
   go_simp
   with_reducible rfl
  rotate_left
  ·simp only [Act.put,List.setIfInBounds_toArray,List.set_cons_zero,List.set_cons_succ,i64_w,i32_w]
   rfl
  refine done_ (done_of HT_.out (by kernel_rfl)) ?_
  try go_wp2
  refine bodyPost_ret (results_ct rfl _ _ gb104 43 #[.bool t106,.string t105] (0,0) _ rfl (by (with_reducible repeat (first|refine blk_drewN ?_ _|refine blk_drew ?_|refine blk_alloc ?_ _));refine blk_put (cs:=#[.bool t106,.string (⟨#[]⟩:ByteArray)]) ?_ 1 _ rfl;(with_reducible repeat (first|refine blk_drewN ?_ _|refine blk_drew ?_|refine blk_alloc ?_ _));refine blk_put (cs:=#[.bool false,.string (⟨#[]⟩:ByteArray)]) ?_ 0 _ rfl;(with_reducible repeat (first|refine blk_drewN ?_ _|refine blk_drew ?_|refine blk_alloc ?_ _));exact BK104.out) Tryz.underlying43 rfl (by kernel_rfl)) rfl ?_
  exact ⟨by first|rfl|(simp [errW_none,errW_some]<;>rfl)|(simp [*,errW_none,errW_some]<;>rfl),by repeat (first|(with_reducible first|exact HB.out|apply below_alloc|apply pw_below_drewN|apply below_drew1|refine below_set ?_ GE104.out|refine below_set ?_ GE107.out)|exact HB.out)⟩
 ·replace c4:=Bool.eq_false_iff.mpr c4
  subst c4
  have H1:(some (t106,t105,false)) = some (r1,r2,r3):=by rw [if_neg (show ¬ (false = true) by decide)] at H;exact H
  clear H
  have H:=H1
  clear H1
  simp only [Option.some.injEq,Prod.mk.injEq] at H
  obtain ⟨rfl,rfl,rfl⟩:=H
  go_enter Tryz.func48,Tryz.ntmps48
  try go_wp2_with (first|((with_reducible refine gate_dst (N:=2) rfl ?_);refine box_event ?hg (N:=2) ?hd (cs:=#[.bool false,.string (⟨#[]⟩:ByteArray)]) (t:=43) ?hr ?_;(case hd=>rfl);(case hg=>rfl);(case hr=>first|(go_simp;done)|(go_simp;rfl));intro gb104 hg w13 hbox hb;have n0_:=Aside0.mk (below_step (by repeat (first|(with_reducible first|exact HB.out|apply below_alloc|apply pw_below_drewN|apply below_drew1)|exact HB.out)) hb);have n1_:=Aside0.mk (hbox);have n2_:=Aside0.mk ((by rw [hg];exact (below_size (by repeat (first|(with_reducible first|exact HB.out|apply below_alloc|apply pw_below_drewN|apply below_drew1)|exact HB.out))):w.heap.size≤gb104));have n3_:=Aside0.mk ((by rw [hg];exact (below_size (by repeat (first|(with_reducible first|exact HB.out|apply below_alloc|apply pw_below_drewN|apply below_drew1)|exact HB.out))):w.heap.size≤gb104));clear HB;have HB:=n0_;have BK104:=n1_;have GW104:=n2_;have GE104:=n3_;clear n0_ n1_ n2_ n3_;clear hb hbox hg)|((with_reducible refine gate_callee (f:=73) rfl ?_);refine goesL_ (some 9) rfl rfl Tryz.func73 (by kernel_rfl) rfl #[.string a0,.string (⟨#[45]⟩:ByteArray)] rfl (by (try simp only [List.map_toArray,List.map_cons,List.map_nil]);first|done|rfl|(simp only [List.length_drop,List.length_take];rfl)) ?_;(with_reducible refine (strings_CutPrefix.calls a0 (⟨#[45]⟩:ByteArray) t105 t106 _ A2.out).mono ?_);rintro e w' ⟨rfl,⟨nd,rfl⟩⟩;refine ⟨_,rfl,?_⟩;(try (rw [drewN_self w13];generalize hq_:World.drewN w13 _ = w13;have n0_:Aside0 (w13.heap[gb104]? = some (.cells #[.bool false,.string (⟨#[]⟩:ByteArray)] 43 (0,0))):=⟨by rw [← hq_];exact (by (with_reducible repeat (first|refine blk_drewN ?_ _|refine blk_drew ?_|refine blk_alloc ?_ _));exact BK104.out)⟩;have n1_:Aside0 (Below w.heap.size w w13):=⟨by rw [← hq_];exact (by repeat (first|(with_reducible first|exact HB.out|apply below_alloc|apply pw_below_drewN|apply below_drew1|refine below_set ?_ GE104.out)|exact HB.out))⟩;clear BK104 HB hq_;have BK104:=n0_;have HB:=n1_;clear n0_ n1_)))|((with_reducible refine gate_dst (N:=6) rfl ?_);refine box_event ?hg (N:=6) ?hd (cs:=#[.bool false,.string (⟨#[]⟩:ByteArray)]) (t:=43) ?hr ?_;(case hd=>rfl);(case hg=>rfl);(case hr=>first|(go_simp;done)|(go_simp;rfl));intro gb107 hg w14 hbox hb;have n0_:=Aside0.mk (blk_below (g:=gb104) (o:=.cells #[.bool false,.string (⟨#[]⟩:ByteArray)] 43 (0,0)) (by (with_reducible repeat (first|refine blk_drewN ?_ _|refine blk_drew ?_|refine blk_alloc ?_ _));exact BK104.out) hb);have n1_:=Aside0.mk (below_step (by repeat (first|(with_reducible first|exact HB.out|apply below_alloc|apply pw_below_drewN|apply below_drew1|refine below_set ?_ GE104.out)|exact HB.out)) hb);have n2_:=Aside0.mk (hbox);have n3_:=Aside0.mk ((by rw [hg];exact (below_size (by repeat (first|(with_reducible first|exact HB.out|apply below_alloc|apply pw_below_drewN|apply below_drew1|refine below_set ?_ GE104.out)|exact HB.out))):w.heap.size≤gb107));have n4_:=Aside0.mk ((by rw [hg];exact (below_size (by repeat (first|(with_reducible first|exact HB.out|apply below_alloc|apply pw_below_drewN|apply below_drew1|refine below_set ?_ GE104.out)|exact HB.out))):w.heap.size≤gb107));have n5_:=Aside0.mk ((by rw [hg];exact Nat.ne_of_lt (blk_lt (g:=gb104) (o:=.cells #[.bool false,.string (⟨#[]⟩:ByteArray)] 43 (0,0)) (by (with_reducible repeat (first|refine blk_drewN ?_ _|refine blk_drew ?_|refine blk_alloc ?_ _));exact BK104.out)):gb104≠gb107));have n6_:=Aside0.mk ((by rw [hg];exact Nat.ne_of_gt (blk_lt (g:=gb104) (o:=.cells #[.bool false,.string (⟨#[]⟩:ByteArray)] 43 (0,0)) (by (with_reducible repeat (first|refine blk_drewN ?_ _|refine blk_drew ?_|refine blk_alloc ?_ _));exact BK104.out)):gb107≠gb104));clear BK104;clear HB;have BK104:=n0_;have HB:=n1_;have BK107:=n2_;have GW107:=n3_;have GE107:=n4_;have NB104_107:=n5_;have NB107_104:=n6_;clear n0_ n1_ n2_ n3_ n4_ n5_ n6_;clear hb hbox hg;have hnb15:=NB107_104.out;have hnc15:=NB104_107.out;have hcz16_0:w14.cell? ⟨gb107,0,none⟩ = some (.bool false):=(blk_cell BK107.out 0).trans rfl;have hcz16_1:w14.cell? ⟨gb107,1,none⟩ = some (.string (⟨#[]⟩:ByteArray)):=(blk_cell BK107.out 1).trans rfl;have hfz16_0:=blk_frozen BK107.out 0;have hfz16_1:=blk_frozen BK107.out 1))
  have n0_:Aside0 (((w14.setCell ⟨gb107,0,none⟩ (.bool t106)).setCell ⟨gb107,1,none⟩ (.string t105)).heap[gb104]? = some (.cells #[.bool false,.string (⟨#[]⟩:ByteArray)] 43 (0,0))):=⟨by (with_reducible repeat (first|refine blk_drewN ?_ _|refine blk_drew ?_|refine blk_alloc ?_ _));refine blk_far ?_ NB104_107.out _;(with_reducible repeat (first|refine blk_drewN ?_ _|refine blk_drew ?_|refine blk_alloc ?_ _));refine blk_far ?_ NB104_107.out _;(with_reducible repeat (first|refine blk_drewN ?_ _|refine blk_drew ?_|refine blk_alloc ?_ _));exact BK104.out⟩
  have n1_:Aside0 (((w14.setCell ⟨gb107,0,none⟩ (.bool t106)).setCell ⟨gb107,1,none⟩ (.string t105)).heap[gb107]? = some (.cells #[.bool t106,.string t105] 43 (0,0))):=⟨by (with_reducible repeat (first|refine blk_drewN ?_ _|refine blk_drew ?_|refine blk_alloc ?_ _));refine blk_put (cs:=#[.bool t106,.string (⟨#[]⟩:ByteArray)]) ?_ 1 _ rfl;(with_reducible repeat (first|refine blk_drewN ?_ _|refine blk_drew ?_|refine blk_alloc ?_ _));refine blk_put (cs:=#[.bool false,.string (⟨#[]⟩:ByteArray)]) ?_ 0 _ rfl;(with_reducible repeat (first|refine blk_drewN ?_ _|refine blk_drew ?_|refine blk_alloc ?_ _));exact BK107.out⟩
  have n2_:Aside0 (Below w.heap.size w ((w14.setCell ⟨gb107,0,none⟩ (.bool t106)).setCell ⟨gb107,1,none⟩ (.string t105))):=⟨by repeat (first|(with_reducible first|exact HB.out|apply below_alloc|apply pw_below_drewN|apply below_drew1|refine below_set ?_ GE104.out|refine below_set ?_ GE107.out)|exact HB.out)⟩
  (try clear BK104)
  (try clear BK107)
  (try clear HB)
  generalize ((w14.setCell ⟨gb107,0,none⟩ (.bool t106)).setCell ⟨gb107,1,none⟩ (.string t105)) = w17 at n0_ n1_ n2_ ⊢
  have BK104:=n0_
  have BK107:=n1_
  have HB:=n2_
  clear n0_ n1_ n2_
  have n0_:=Aside0.mk (blk_drew BK104.out)
  have n1_:=Aside0.mk (blk_drew BK107.out)
  have n2_:=Aside0.mk (below_drew1 HB.out)
  clear BK104
  clear BK107
  clear HB
  have BK104:=n0_
  have BK107:=n1_
  have HB:=n2_
  clear n0_ n1_ n2_
  refine start_ (n:=10) (S:=fun w'=>w'.cell? ⟨gb107,0,none⟩ = some (.bool t106)∧w'.cell? ⟨gb107,1,none⟩ = some (.string t105)) (ds:=[]) #[false,false,false,false,false,false,false,false,false,false] (by kernel_rfl) rfl rfl ⟨(blk_cell BK107.out 0).trans rfl,(blk_cell BK107.out 1).trans rfl⟩ (fun hHeld=>?_);refine with_tabW integer_read.tab3 integer_read.bits3 (fun HT_ HW_=>?_)
  generalize w17.drew = w18 at BK104 BK107 HB hHeld ⊢
  refine pure_ (i:=1) (N:=some 16) (v:=?_) (a':=?_) #[false,true,false,false,false,false,false,false,false,false] rfl rfl (any_of HT_.out (by kernel_rfl)) (fun _ _ _ h=>h) (Or.inl ⟨by rfl,?_⟩) ?_ ?_
  rotate_left
  ·intro w'
   go_simp
   with_reducible rfl
  rotate_left
  ·simp only [Act.put,List.setIfInBounds_toArray,List.set_cons_zero,List.set_cons_succ,i64_w,i32_w]
   rfl
  refine take_ (i:=0) (N:=some 15) (v:=?_) (a':=?_) #[true,true,false,false,false,false,false,false,false,false] rfl rfl (take_ofW HT_.out HW_.out (by kernel_rfl)) (fun _ _ _ h=>h) (Or.inl ⟨by rfl,?_⟩) hHeld ?_ ?_
  rotate_left
  ·rintro w' ⟨s0,s1⟩
   go_simp
   with_reducible rfl
  rotate_left
  ·simp only [Act.put,List.setIfInBounds_toArray,List.set_cons_zero,List.set_cons_succ,i64_w,i32_w]
   rfl
  refine one_ (i:=2) (N:=some 17) #[true,true,true,false,false,false,false,false,false,false] rfl rfl (one_of HT_.out (by kernel_rfl)) (by decide) (fun K hK=>?_)
  refine goes_ Tryz.func74 (by kernel_rfl) rfl #[.string t105] (by rfl) rfl rfl (by (try simp only [List.map_toArray,List.map_cons,List.map_nil]);first|done|rfl|(simp only [List.length_drop,List.length_take];rfl)) ?_
  with_reducible refine (natural_Valid.calls k t105 false _ A3.out).mono ?_
  rintro e w' ⟨rfl,⟨nd,rfl⟩⟩
  refine ⟨_,rfl,?_⟩
  refine hK.out _ _ ⟨(blk_cell BK107.out 0).trans rfl,(blk_cell BK107.out 1).trans rfl⟩ (fun hHeld=>?_)
  clear hK K
  refine norm_ (a':=?_) ?_ ?_
  rotate_left
  ·show Act.put _ (some 17) _ = _
   simp only [Act.put,List.setIfInBounds_toArray,List.set_cons_zero,List.set_cons_succ,i64_w,i32_w]
   rfl
  refine pure_ (i:=3) (N:=some 18) (v:=?_) (a':=?_) #[true,true,true,true,false,false,false,false,false,false] rfl rfl (any_of HT_.out (by kernel_rfl)) (fun _ _ _ h=>h) (Or.inl ⟨by rfl,?_⟩) ?_ ?_
  rotate_left
  ·intro w'
   go_simp
   with_reducible rfl
  rotate_left
  ·simp only [Act.put,List.setIfInBounds_toArray,List.set_cons_zero,List.set_cons_succ,i64_w,i32_w]
   rfl
  refine pure_ (i:=4) (N:=some 19) (v:=undef) (a':=?_) #[true,true,true,true,true,false,false,false,false,false] rfl rfl (any_of HT_.out (by kernel_rfl)) (fun _ _ _ h=>h) (Or.inr ⟨by rfl,rfl⟩) ?_ ?_
  rotate_left
  ·simp only [Act.put,List.setIfInBounds_toArray,List.set_cons_zero,List.set_cons_succ,i64_w,i32_w]
   rfl
  refine pure_ (i:=5) (N:=some 20) (v:=undef) (a':=?_) #[true,true,true,true,true,true,false,false,false,false] rfl rfl (any_of HT_.out (by kernel_rfl)) (fun _ _ _ h=>h) (Or.inr ⟨by rfl,rfl⟩) ?_ ?_
  rotate_left
  ·simp only [Act.put,List.setIfInBounds_toArray,List.set_cons_zero,List.set_cons_succ,i64_w,i32_w]
   rfl
  refine pure_ (i:=6) (N:=some 21) (v:=undef) (a':=?_) #[true,true,true,true,true,true,true,false,false,false] rfl rfl (any_of HT_.out (by kernel_rfl)) (fun _ _ _ h=>h) (Or.inr ⟨by rfl,rfl⟩) ?_ ?_
  rotate_left
  ·simp only [Act.put,List.setIfInBounds_toArray,List.set_cons_zero,List.set_cons_succ,i64_w,i32_w]
   rfl
  refine pure_ (i:=7) (N:=some 22) (v:=?_) (a':=?_) #[true,true,true,true,true,true,true,true,false,false] rfl rfl (any_of HT_.out (by kernel_rfl)) (fun _ _ _ h=>h) (Or.inl ⟨by rfl,?_⟩) ?_ ?_
  rotate_left
  ·intro w'
   go_simp
   with_reducible rfl
  rotate_left
  ·simp only [Act.put,List.setIfInBounds_toArray,List.set_cons_zero,List.set_cons_succ,i64_w,i32_w]
   rfl
  refine one_ (i:=8) (N:=none) #[true,true,true,true,true,true,true,true,true,false] rfl rfl (one_of HT_.out (by kernel_rfl)) (by decide) (fun K hK=>?_)
  have hs19:w18.cell? ⟨gb104,0,none⟩ = some (.bool false):=(blk_cell BK104.out 0).trans rfl
  have hfs19:=blk_frozen BK104.out 0
  have hns19_1:=NB107_104.out
  have hms19_1:=NB104_107.out
  have hs20:w18.cell? ⟨gb104,1,none⟩ = some (.string (⟨#[]⟩:ByteArray)):=(blk_cell BK104.out 1).trans rfl
  have hfs20:=blk_frozen BK104.out 1
  have hns20_1:=NB107_104.out
  have hms20_1:=NB104_107.out
  refine skip_ (w1:=?_) (by rfl) rfl ?_ ?_
  rotate_left
  ·go_simp
   rfl
  refine hK.out _ _ ⟨((cell_far (p:=⟨gb104,_,none⟩) NB107_104.out _).trans (((cell_far (p:=⟨gb104,_,none⟩) NB107_104.out _).trans (hHeld.1)))),((cell_far (p:=⟨gb104,_,none⟩) NB107_104.out _).trans (((cell_far (p:=⟨gb104,_,none⟩) NB107_104.out _).trans (hHeld.2))))⟩ (fun hHeld=>?_)
  clear hK K
  refine pure_ (i:=9) (N:=some 3) (v:=?_) (a':=?_) #[true,true,true,true,true,true,true,true,true,true] rfl rfl (any_of HT_.out (by kernel_rfl)) (fun _ _ _ h=>h) (Or.inl ⟨by rfl,?_⟩) ?_ ?_
  rotate_left
  ·intro w'
   go_simp
   with_reducible rfl
  rotate_left
  ·simp only [Act.put,List.setIfInBounds_toArray,List.set_cons_zero,List.set_cons_succ,i64_w,i32_w]
   rfl
  refine done_ (done_of HT_.out (by kernel_rfl)) ?_
  try go_wp2
  refine bodyPost_ret (results_ct rfl _ _ gb104 43 #[.bool t106,.string t105] (0,0) _ rfl (by (with_reducible repeat (first|refine blk_drewN ?_ _|refine blk_drew ?_|refine blk_alloc ?_ _));refine blk_put (cs:=#[.bool t106,.string (⟨#[]⟩:ByteArray)]) ?_ 1 _ rfl;(with_reducible repeat (first|refine blk_drewN ?_ _|refine blk_drew ?_|refine blk_alloc ?_ _));refine blk_put (cs:=#[.bool false,.string (⟨#[]⟩:ByteArray)]) ?_ 0 _ rfl;(with_reducible repeat (first|refine blk_drewN ?_ _|refine blk_drew ?_|refine blk_alloc ?_ _));exact BK104.out) Tryz.underlying43 rfl (by kernel_rfl)) rfl ?_
  exact ⟨by first|rfl|(simp [errW_none,errW_some]<;>rfl)|(simp [*,errW_none,errW_some]<;>rfl),by repeat (first|(with_reducible first|exact HB.out|apply below_alloc|apply pw_below_drewN|apply below_drew1|refine below_set ?_ GE104.out|refine below_set ?_ GE107.out)|exact HB.out)⟩
end Go.Proofs.YtaknchlegjcdhaaGreatDoor.Pr
namespace Go.Proofs.YtaknchlegjcdhaaGreatDoor.Pr
open Go.RowKit Go.Proofs.YtaknchlegjcdhaaGreatDoorW.PrintWords Go.Proofs.YtaknchlegjcdhaaGreatDoorW.PrintLast Go.Proofs.YtaknchlegjcdhaaGreatDoorW.PrintMore
attribute [local go_sem] max2_int min2_int max_two min_two max_three min_three max_four min_four
set_option linter.unusedVariables false
set_option linter.unusedSimpArgs false
def integer_zero.f :Option (Bool × ByteArray):=some (false,(⟨#[48]⟩:ByteArray))
set_option maxHeartbeats 8000000 in
set_option maxRecDepth 100000 in
theorem integer_zero.calls  (r1:Bool) (r2:ByteArray) (w:World) (h:integer_zero.f  = some (r1,r2)) :
  Calls Tryz.prog 59 #[] w fun e w'=>e = .returned (.agg #[.bool r1,.string r2])∧Below w.heap.size w w':=by
 have hu43:=Tryz.underlying43
 have HB:=Aside0.mk (Below.refl w.heap.size w)
 have H:(some (false,(⟨#[48]⟩:ByteArray))) = some (r1,r2):=h
 clear h
 simp only [Option.some.injEq,Prod.mk.injEq] at H
 obtain ⟨rfl,rfl⟩:=H
 go_enter Tryz.func59,Tryz.ntmps59
 go_wp2_with (first|((with_reducible refine gate_dst (N:=0) rfl ?_);refine box_event ?hg (N:=0) ?hd (cs:=#[.bool false,.string (⟨#[]⟩:ByteArray)]) (t:=43) ?hr ?_;(case hd=>rfl);(case hg=>rfl);(case hr=>first|(go_simp;done)|(go_simp;rfl));intro gb109 hg w1 hbox hb;have n0_:=Aside0.mk (below_step (by repeat (first|(with_reducible first|exact HB.out|apply below_alloc|apply pw_below_drewN|apply below_drew1)|exact HB.out)) hb);have n1_:=Aside0.mk (hbox);have n2_:=Aside0.mk ((by rw [hg];exact (below_size (by repeat (first|(with_reducible first|exact HB.out|apply below_alloc|apply pw_below_drewN|apply below_drew1)|exact HB.out))):w.heap.size≤gb109));have n3_:=Aside0.mk ((by rw [hg];exact (below_size (by repeat (first|(with_reducible first|exact HB.out|apply below_alloc|apply pw_below_drewN|apply below_drew1)|exact HB.out))):w.heap.size≤gb109));clear HB;have HB:=n0_;have BK109:=n1_;have GW109:=n2_;have GE109:=n3_;clear n0_ n1_ n2_ n3_;clear hb hbox hg;have hcz2_0:w1.cell? ⟨gb109,0,none⟩ = some (.bool false):=(blk_cell BK109.out 0).trans rfl;have hcz2_1:w1.cell? ⟨gb109,1,none⟩ = some (.string (⟨#[]⟩:ByteArray)):=(blk_cell BK109.out 1).trans rfl;have hfz2_0:=blk_frozen BK109.out 0;have hfz2_1:=blk_frozen BK109.out 1))
 refine bodyPost_ret (results_cell_row rfl _ _ gb109 43 #[.bool false,.string (⟨#[48]⟩:ByteArray)] (0,0) _ rfl (by (with_reducible repeat (first|refine blk_drewN ?_ _|refine blk_drew ?_|refine blk_alloc ?_ _));refine blk_put (cs:=#[.bool false,.string (⟨#[]⟩:ByteArray)]) ?_ 1 _ rfl;(with_reducible repeat (first|refine blk_drewN ?_ _|refine blk_drew ?_|refine blk_alloc ?_ _));refine blk_put (cs:=#[.bool false,.string (⟨#[]⟩:ByteArray)]) ?_ 0 _ rfl;(with_reducible repeat (first|refine blk_drewN ?_ _|refine blk_drew ?_|refine blk_alloc ?_ _));exact BK109.out) Tryz.underlying43 rfl (by kernel_rfl)) rfl ?_
 exact ⟨by first|rfl|(simp [errW_none,errW_some]<;>rfl)|(simp [*,errW_none,errW_some]<;>rfl),by repeat (first|(with_reducible first|exact HB.out|apply below_alloc|apply pw_below_drewN|apply below_drew1|refine below_set ?_ GE109.out)|exact HB.out)⟩
end Go.Proofs.YtaknchlegjcdhaaGreatDoor.Pr
namespace Go.Proofs.YtaknchlegjcdhaaGreatDoor.Pr
open Go.RowKit Go.Proofs.YtaknchlegjcdhaaGreatDoorW.PrintWords Go.Proofs.YtaknchlegjcdhaaGreatDoorW.PrintLast Go.Proofs.YtaknchlegjcdhaaGreatDoorW.PrintMore
attribute [local go_sem] max2_int min2_int max_two min_two max_three min_three max_four min_four
set_option linter.unusedVariables false
set_option linter.unusedSimpArgs false
def integer_both.j0:Nat→Bool→Bool→ByteArray→Bool→ByteArray→Option (Bool × ByteArray × Bool × ByteArray × Int)
 | 0,_,_,_,_,_=>none
 | k + 1,x26,x116000,x116001,x120000,x120001=>if x26 = true then ((integer_zero.f).bind fun bt120=>((integer_zero.f).bind fun bt122=>(some (bt120.1,bt120.2,bt122.1,bt122.2,1)))) else (some (x116000,x116001,x120000,x120001,0))
def integer_both.f (k:Nat) (a0:ByteArray) (a1:ByteArray):Option (Bool × ByteArray × Bool × ByteArray × Int):=(integer_read.f k a0).bind fun bt112=>((integer_read.f k a1).bind fun bt116=>(if bt112.2.2 = true then (integer_both.j0 k (!bt116.2.2) bt112.1 bt112.2.1 bt116.1 bt116.2.1) else (integer_both.j0 k true bt112.1 bt112.2.1 bt116.1 bt116.2.1)))
theorem integer_both.mono_l:∀ k,(∀ y0 y1 y2 y3 y4,LeO (integer_both.j0 k y0 y1 y2 y3 y4) (integer_both.j0 (k + 1) y0 y1 y2 y3 y4))
 | 0=>fun _ _ _ _ _ r h=>by simp [integer_both.j0] at h
 | k + 1=>by
  have ih0:=integer_both.mono_l k
  ·intro y0 y1 y2 y3 y4
   unfold integer_both.j0
   repeat' first
   | (with_reducible exact ih0 _ _ _ _ _)
   | (with_reducible exact integer_read.mono _ _)
   | (with_reducible exact LeO.refl _)
   | (with_reducible exact LeO.none _)
   | (with_reducible refine LeO.ite ?_ ?_)
   | (with_reducible refine LeO.bind ?_ (fun _=>?_))
   | exact ih0 _ _ _ _ _
   | exact integer_read.mono _ _
   | exact LeO.none _
   | refine LeO.ite ?_ ?_
   | refine LeO.bind ?_ (fun _=>?_)
theorem integer_both.mono:∀ a0 a1 k,LeO (integer_both.f k a0 a1) (integer_both.f (k + 1) a0 a1):=by
 intro a0 a1 k
 have ih0:=integer_both.mono_l k
 unfold integer_both.f
 repeat' first
   | (with_reducible exact ih0 _ _ _ _ _)
   | (with_reducible exact integer_read.mono _ _)
   | (with_reducible exact LeO.refl _)
   | (with_reducible exact LeO.none _)
   | (with_reducible refine LeO.ite ?_ ?_)
   | (with_reducible refine LeO.bind ?_ (fun _=>?_))
   | exact ih0 _ _ _ _ _
   | exact integer_read.mono _ _
   | exact LeO.none _
   | refine LeO.ite ?_ ?_
   | refine LeO.bind ?_ (fun _=>?_)
set_option maxHeartbeats 8000000 in
set_option maxRecDepth 100000 in
theorem integer_both.calls (k:Nat) (a0:ByteArray) (a1:ByteArray) (r1:Bool) (r2:ByteArray) (r3:Bool) (r4:ByteArray) (r5:Int) (w:World) (h:integer_both.f k a0 a1 = some (r1,r2,r3,r4,r5)) :
  Calls Tryz.prog 51 #[.string a0,.string a1] w fun e w'=>e = .returned (.tuple #[.agg #[.bool r1,.string r2],.agg #[.bool r3,.string r4],.int .i64 r5])∧Below w.heap.size w w':=by
 have hu43:=Tryz.underlying43
 have HB:=Aside0.mk (Below.refl w.heap.size w)
 have H:((integer_read.f k a0).bind fun bt112=>((integer_read.f k a1).bind fun bt116=>(if bt112.2.2 = true then (integer_both.j0 k (!bt116.2.2) bt112.1 bt112.2.1 bt116.1 bt116.2.1) else (integer_both.j0 k true bt112.1 bt112.2.1 bt116.1 bt116.2.1)))) = some (r1,r2,r3,r4,r5):=h
 clear h
 replace H:=Option.bind_eq_some_iff.mp H
 obtain ⟨⟨t112,t113,t114⟩,A30,H⟩:=H
 replace H:((integer_read.f k a1).bind fun bt116=>(if t114 = true then (integer_both.j0 k (!bt116.2.2) t112 t113 bt116.1 bt116.2.1) else (integer_both.j0 k true t112 t113 bt116.1 bt116.2.1))) = some (r1,r2,r3,r4,r5):=H
 have A3:=Aside0.mk A30
 clear A30
 replace H:=Option.bind_eq_some_iff.mp H
 obtain ⟨⟨t116,t117,t118⟩,A40,H⟩:=H
 replace H:(if t114 = true then (integer_both.j0 k (!t118) t112 t113 t116 t117) else (integer_both.j0 k true t112 t113 t116 t117)) = some (r1,r2,r3,r4,r5):=H
 have A4:=Aside0.mk A40
 clear A40
 have HC5:=Aside0.mk H
 clear H
 go_enter Tryz.func51,Tryz.ntmps51
 go_upto_region 3 with (first|((with_reducible refine gate_dst (N:=4) rfl ?_);refine box_event ?hg (N:=4) ?hd (cs:=#[.bool false,.string (⟨#[]⟩:ByteArray)]) (t:=43) ?hr ?_;(case hd=>rfl);(case hg=>rfl);(case hr=>first|(go_simp;done)|(go_simp;rfl));intro gb110 hg w6 hbox hb;have n0_:=Aside0.mk (below_step (by repeat (first|(with_reducible first|exact HB.out|apply below_alloc|apply pw_below_drewN|apply below_drew1)|exact HB.out)) hb);have n1_:=Aside0.mk (hbox);have n2_:=Aside0.mk ((by rw [hg];exact (below_size (by repeat (first|(with_reducible first|exact HB.out|apply below_alloc|apply pw_below_drewN|apply below_drew1)|exact HB.out))):w.heap.size≤gb110));have n3_:=Aside0.mk ((by rw [hg];exact (below_size (by repeat (first|(with_reducible first|exact HB.out|apply below_alloc|apply pw_below_drewN|apply below_drew1)|exact HB.out))):w.heap.size≤gb110));clear HB;have HB:=n0_;have BK110:=n1_;have GW110:=n2_;have GE110:=n3_;clear n0_ n1_ n2_ n3_;clear hb hbox hg)|((with_reducible refine gate_dst (N:=5) rfl ?_);refine box_event ?hg (N:=5) ?hd (cs:=#[.bool false,.string (⟨#[]⟩:ByteArray)]) (t:=43) ?hr ?_;(case hd=>rfl);(case hg=>rfl);(case hr=>first|(go_simp;done)|(go_simp;rfl));intro gb111 hg w7 hbox hb;have n0_:=Aside0.mk (blk_below (g:=gb110) (o:=.cells #[.bool false,.string (⟨#[]⟩:ByteArray)] 43 (0,0)) (by (with_reducible repeat (first|refine blk_drewN ?_ _|refine blk_drew ?_|refine blk_alloc ?_ _));exact BK110.out) hb);have n1_:=Aside0.mk (below_step (by repeat (first|(with_reducible first|exact HB.out|apply below_alloc|apply pw_below_drewN|apply below_drew1|refine below_set ?_ GE110.out)|exact HB.out)) hb);have n2_:=Aside0.mk (hbox);have n3_:=Aside0.mk ((by rw [hg];exact (below_size (by repeat (first|(with_reducible first|exact HB.out|apply below_alloc|apply pw_below_drewN|apply below_drew1|refine below_set ?_ GE110.out)|exact HB.out))):w.heap.size≤gb111));have n4_:=Aside0.mk ((by rw [hg];exact (below_size (by repeat (first|(with_reducible first|exact HB.out|apply below_alloc|apply pw_below_drewN|apply below_drew1|refine below_set ?_ GE110.out)|exact HB.out))):w.heap.size≤gb111));have n5_:=Aside0.mk ((by rw [hg];exact Nat.ne_of_lt (blk_lt (g:=gb110) (o:=.cells #[.bool false,.string (⟨#[]⟩:ByteArray)] 43 (0,0)) (by (with_reducible repeat (first|refine blk_drewN ?_ _|refine blk_drew ?_|refine blk_alloc ?_ _));exact BK110.out)):gb110≠gb111));have n6_:=Aside0.mk ((by rw [hg];exact Nat.ne_of_gt (blk_lt (g:=gb110) (o:=.cells #[.bool false,.string (⟨#[]⟩:ByteArray)] 43 (0,0)) (by (with_reducible repeat (first|refine blk_drewN ?_ _|refine blk_drew ?_|refine blk_alloc ?_ _));exact BK110.out)):gb111≠gb110));clear BK110;clear HB;have BK110:=n0_;have HB:=n1_;have BK111:=n2_;have GW111:=n3_;have GE111:=n4_;have NB110_111:=n5_;have NB111_110:=n6_;clear n0_ n1_ n2_ n3_ n4_ n5_ n6_;clear hb hbox hg)|((with_reducible refine gate_callee (f:=48) rfl ?_);refine goesL_ (some 13) rfl rfl Tryz.func48 (by kernel_rfl) rfl #[.string a0] rfl (by (try simp only [List.map_toArray,List.map_cons,List.map_nil]);first|done|rfl|(simp only [List.length_drop,List.length_take];rfl)) ?_;(with_reducible refine (integer_read.calls k a0 t112 t113 t114 _ A3.out).mono ?_);rintro e w8 ⟨rfl,hb⟩;refine ⟨_,rfl,?_⟩;have n0_:=Aside0.mk (blk_below (g:=gb110) (o:=.cells #[.bool false,.string (⟨#[]⟩:ByteArray)] 43 (0,0)) (by (with_reducible repeat (first|refine blk_drewN ?_ _|refine blk_drew ?_|refine blk_alloc ?_ _));exact BK110.out) hb);have n1_:=Aside0.mk (blk_below (g:=gb111) (o:=.cells #[.bool false,.string (⟨#[]⟩:ByteArray)] 43 (0,0)) (by (with_reducible repeat (first|refine blk_drewN ?_ _|refine blk_drew ?_|refine blk_alloc ?_ _));exact BK111.out) hb);have n2_:=Aside0.mk (below_step (by repeat (first|(with_reducible first|exact HB.out|apply below_alloc|apply pw_below_drewN|apply below_drew1|refine below_set ?_ GE110.out|refine below_set ?_ GE111.out)|exact HB.out)) hb);clear BK110;clear BK111;clear HB;have BK110:=n0_;have BK111:=n1_;have HB:=n2_;clear n0_ n1_ n2_;(try clear hb);(try clear hb2);(try clear hk);(try clear hi))|((with_reducible refine gate_dst (N:=7) rfl ?_);refine box_event ?hg (N:=7) ?hd (cs:=#[.bool false,.string (⟨#[]⟩:ByteArray)]) (t:=43) ?hr ?_;(case hd=>rfl);(case hg=>rfl);(case hr=>first|(go_simp;done)|(go_simp;rfl));intro gb115 hg w9 hbox hb;have n0_:=Aside0.mk (blk_below (g:=gb110) (o:=.cells #[.bool false,.string (⟨#[]⟩:ByteArray)] 43 (0,0)) (by (with_reducible repeat (first|refine blk_drewN ?_ _|refine blk_drew ?_|refine blk_alloc ?_ _));exact BK110.out) hb);have n1_:=Aside0.mk (blk_below (g:=gb111) (o:=.cells #[.bool false,.string (⟨#[]⟩:ByteArray)] 43 (0,0)) (by (with_reducible repeat (first|refine blk_drewN ?_ _|refine blk_drew ?_|refine blk_alloc ?_ _));exact BK111.out) hb);have n2_:=Aside0.mk (below_step (by repeat (first|(with_reducible first|exact HB.out|apply below_alloc|apply pw_below_drewN|apply below_drew1|refine below_set ?_ GE110.out|refine below_set ?_ GE111.out)|exact HB.out)) hb);have n3_:=Aside0.mk (hbox);have n4_:=Aside0.mk ((by rw [hg];exact (below_size (by repeat (first|(with_reducible first|exact HB.out|apply below_alloc|apply pw_below_drewN|apply below_drew1|refine below_set ?_ GE110.out|refine below_set ?_ GE111.out)|exact HB.out))):w.heap.size≤gb115));have n5_:=Aside0.mk ((by rw [hg];exact (below_size (by repeat (first|(with_reducible first|exact HB.out|apply below_alloc|apply pw_below_drewN|apply below_drew1|refine below_set ?_ GE110.out|refine below_set ?_ GE111.out)|exact HB.out))):w.heap.size≤gb115));have n6_:=Aside0.mk ((by rw [hg];exact Nat.ne_of_lt (blk_lt (g:=gb110) (o:=.cells #[.bool false,.string (⟨#[]⟩:ByteArray)] 43 (0,0)) (by (with_reducible repeat (first|refine blk_drewN ?_ _|refine blk_drew ?_|refine blk_alloc ?_ _));exact BK110.out)):gb110≠gb115));have n7_:=Aside0.mk ((by rw [hg];exact Nat.ne_of_gt (blk_lt (g:=gb110) (o:=.cells #[.bool false,.string (⟨#[]⟩:ByteArray)] 43 (0,0)) (by (with_reducible repeat (first|refine blk_drewN ?_ _|refine blk_drew ?_|refine blk_alloc ?_ _));exact BK110.out)):gb115≠gb110));have n8_:=Aside0.mk ((by rw [hg];exact Nat.ne_of_lt (blk_lt (g:=gb111) (o:=.cells #[.bool false,.string (⟨#[]⟩:ByteArray)] 43 (0,0)) (by (with_reducible repeat (first|refine blk_drewN ?_ _|refine blk_drew ?_|refine blk_alloc ?_ _));exact BK111.out)):gb111≠gb115));have n9_:=Aside0.mk ((by rw [hg];exact Nat.ne_of_gt (blk_lt (g:=gb111) (o:=.cells #[.bool false,.string (⟨#[]⟩:ByteArray)] 43 (0,0)) (by (with_reducible repeat (first|refine blk_drewN ?_ _|refine blk_drew ?_|refine blk_alloc ?_ _));exact BK111.out)):gb115≠gb111));clear BK110;clear BK111;clear HB;have BK110:=n0_;have BK111:=n1_;have HB:=n2_;have BK115:=n3_;have GW115:=n4_;have GE115:=n5_;have NB110_115:=n6_;have NB115_110:=n7_;have NB111_115:=n8_;have NB115_111:=n9_;clear n0_ n1_ n2_ n3_ n4_ n5_ n6_ n7_ n8_ n9_;clear hb hbox hg;have hnb10:=NB115_110.out;have hnc10:=NB110_115.out;have hnb11:=NB115_111.out;have hnc11:=NB111_115.out;have hcz12_0:w9.cell? ⟨gb115,0,none⟩ = some (.bool false):=(blk_cell BK115.out 0).trans rfl;have hcz12_1:w9.cell? ⟨gb115,1,none⟩ = some (.string (⟨#[]⟩:ByteArray)):=(blk_cell BK115.out 1).trans rfl;have hfz12_0:=blk_frozen BK115.out 0;have hfz12_1:=blk_frozen BK115.out 1)|((with_reducible refine gate_callee (f:=48) rfl ?_);refine goesL_ (some 18) rfl rfl Tryz.func48 (by kernel_rfl) rfl #[.string a1] rfl (by (try simp only [List.map_toArray,List.map_cons,List.map_nil]);first|done|rfl|(simp only [List.length_drop,List.length_take];rfl)) ?_;(with_reducible refine (integer_read.calls k a1 t116 t117 t118 _ A4.out).mono ?_);rintro e w13 ⟨rfl,hb⟩;refine ⟨_,rfl,?_⟩;have n0_:=Aside0.mk (blk_below (g:=gb110) (o:=.cells #[.bool false,.string (⟨#[]⟩:ByteArray)] 43 (0,0)) (by (with_reducible repeat (first|refine blk_drewN ?_ _|refine blk_drew ?_|refine blk_alloc ?_ _));refine blk_far ?_ NB110_115.out _;(with_reducible repeat (first|refine blk_drewN ?_ _|refine blk_drew ?_|refine blk_alloc ?_ _));refine blk_far ?_ NB110_115.out _;(with_reducible repeat (first|refine blk_drewN ?_ _|refine blk_drew ?_|refine blk_alloc ?_ _));exact BK110.out) hb);have n1_:=Aside0.mk (blk_below (g:=gb111) (o:=.cells #[.bool false,.string (⟨#[]⟩:ByteArray)] 43 (0,0)) (by (with_reducible repeat (first|refine blk_drewN ?_ _|refine blk_drew ?_|refine blk_alloc ?_ _));refine blk_far ?_ NB111_115.out _;(with_reducible repeat (first|refine blk_drewN ?_ _|refine blk_drew ?_|refine blk_alloc ?_ _));refine blk_far ?_ NB111_115.out _;(with_reducible repeat (first|refine blk_drewN ?_ _|refine blk_drew ?_|refine blk_alloc ?_ _));exact BK111.out) hb);have n2_:=Aside0.mk (blk_below (g:=gb115) (o:=.cells #[.bool t112,.string t113] 43 (0,0)) (by (with_reducible repeat (first|refine blk_drewN ?_ _|refine blk_drew ?_|refine blk_alloc ?_ _));refine blk_put (cs:=#[.bool t112,.string (⟨#[]⟩:ByteArray)]) ?_ 1 _ rfl;(with_reducible repeat (first|refine blk_drewN ?_ _|refine blk_drew ?_|refine blk_alloc ?_ _));refine blk_put (cs:=#[.bool false,.string (⟨#[]⟩:ByteArray)]) ?_ 0 _ rfl;(with_reducible repeat (first|refine blk_drewN ?_ _|refine blk_drew ?_|refine blk_alloc ?_ _));exact BK115.out) hb);have n3_:=Aside0.mk (below_step (by repeat (first|(with_reducible first|exact HB.out|apply below_alloc|apply pw_below_drewN|apply below_drew1|refine below_set ?_ GE110.out|refine below_set ?_ GE111.out|refine below_set ?_ GE115.out)|exact HB.out)) hb);clear BK110;clear BK111;clear BK115;clear HB;have BK110:=n0_;have BK111:=n1_;have BK115:=n2_;have HB:=n3_;clear n0_ n1_ n2_ n3_;(try clear hb);(try clear hb2);(try clear hk);(try clear hi))|((with_reducible refine gate_dst (N:=9) rfl ?_);refine box_event ?hg (N:=9) ?hd (cs:=#[.bool false,.string (⟨#[]⟩:ByteArray)]) (t:=43) ?hr ?_;(case hd=>rfl);(case hg=>rfl);(case hr=>first|(go_simp;done)|(go_simp;rfl));intro gb119 hg w14 hbox hb;have n0_:=Aside0.mk (blk_below (g:=gb110) (o:=.cells #[.bool false,.string (⟨#[]⟩:ByteArray)] 43 (0,0)) (by (with_reducible repeat (first|refine blk_drewN ?_ _|refine blk_drew ?_|refine blk_alloc ?_ _));exact BK110.out) hb);have n1_:=Aside0.mk (blk_below (g:=gb111) (o:=.cells #[.bool false,.string (⟨#[]⟩:ByteArray)] 43 (0,0)) (by (with_reducible repeat (first|refine blk_drewN ?_ _|refine blk_drew ?_|refine blk_alloc ?_ _));exact BK111.out) hb);have n2_:=Aside0.mk (blk_below (g:=gb115) (o:=.cells #[.bool t112,.string t113] 43 (0,0)) (by (with_reducible repeat (first|refine blk_drewN ?_ _|refine blk_drew ?_|refine blk_alloc ?_ _));exact BK115.out) hb);have n3_:=Aside0.mk (below_step (by repeat (first|(with_reducible first|exact HB.out|apply below_alloc|apply pw_below_drewN|apply below_drew1|refine below_set ?_ GE110.out|refine below_set ?_ GE111.out|refine below_set ?_ GE115.out)|exact HB.out)) hb);have n4_:=Aside0.mk (hbox);have n5_:=Aside0.mk ((by rw [hg];exact (below_size (by repeat (first|(with_reducible first|exact HB.out|apply below_alloc|apply pw_below_drewN|apply below_drew1|refine below_set ?_ GE110.out|refine below_set ?_ GE111.out|refine below_set ?_ GE115.out)|exact HB.out))):w.heap.size≤gb119));have n6_:=Aside0.mk ((by rw [hg];exact (below_size (by repeat (first|(with_reducible first|exact HB.out|apply below_alloc|apply pw_below_drewN|apply below_drew1|refine below_set ?_ GE110.out|refine below_set ?_ GE111.out|refine below_set ?_ GE115.out)|exact HB.out))):w.heap.size≤gb119));have n7_:=Aside0.mk ((by rw [hg];exact Nat.ne_of_lt (blk_lt (g:=gb110) (o:=.cells #[.bool false,.string (⟨#[]⟩:ByteArray)] 43 (0,0)) (by (with_reducible repeat (first|refine blk_drewN ?_ _|refine blk_drew ?_|refine blk_alloc ?_ _));exact BK110.out)):gb110≠gb119));have n8_:=Aside0.mk ((by rw [hg];exact Nat.ne_of_gt (blk_lt (g:=gb110) (o:=.cells #[.bool false,.string (⟨#[]⟩:ByteArray)] 43 (0,0)) (by (with_reducible repeat (first|refine blk_drewN ?_ _|refine blk_drew ?_|refine blk_alloc ?_ _));exact BK110.out)):gb119≠gb110));have n9_:=Aside0.mk ((by rw [hg];exact Nat.ne_of_lt (blk_lt (g:=gb111) (o:=.cells #[.bool false,.string (⟨#[]⟩:ByteArray)] 43 (0,0)) (by (with_reducible repeat (first|refine blk_drewN ?_ _|refine blk_drew ?_|refine blk_alloc ?_ _));exact BK111.out)):gb111≠gb119));have n10_:=Aside0.mk ((by rw [hg];exact Nat.ne_of_gt (blk_lt (g:=gb111) (o:=.cells #[.bool false,.string (⟨#[]⟩:ByteArray)] 43 (0,0)) (by (with_reducible repeat (first|refine blk_drewN ?_ _|refine blk_drew ?_|refine blk_alloc ?_ _));exact BK111.out)):gb119≠gb111));have n11_:=Aside0.mk ((by rw [hg];exact Nat.ne_of_lt (blk_lt (g:=gb115) (o:=.cells #[.bool t112,.string t113] 43 (0,0)) (by (with_reducible repeat (first|refine blk_drewN ?_ _|refine blk_drew ?_|refine blk_alloc ?_ _));exact BK115.out)):gb115≠gb119));have n12_:=Aside0.mk ((by rw [hg];exact Nat.ne_of_gt (blk_lt (g:=gb115) (o:=.cells #[.bool t112,.string t113] 43 (0,0)) (by (with_reducible repeat (first|refine blk_drewN ?_ _|refine blk_drew ?_|refine blk_alloc ?_ _));exact BK115.out)):gb119≠gb115));clear BK110;clear BK111;clear BK115;clear HB;have BK110:=n0_;have BK111:=n1_;have BK115:=n2_;have HB:=n3_;have BK119:=n4_;have GW119:=n5_;have GE119:=n6_;have NB110_119:=n7_;have NB119_110:=n8_;have NB111_119:=n9_;have NB119_111:=n10_;have NB115_119:=n11_;have NB119_115:=n12_;clear n0_ n1_ n2_ n3_ n4_ n5_ n6_ n7_ n8_ n9_ n10_ n11_ n12_;clear hb hbox hg;have hnb15:=NB119_110.out;have hnc15:=NB110_119.out;have hnb16:=NB119_111.out;have hnc16:=NB111_119.out;have hnb17:=NB119_115.out;have hnc17:=NB115_119.out;have hcz18_0:w14.cell? ⟨gb119,0,none⟩ = some (.bool false):=(blk_cell BK119.out 0).trans rfl;have hcz18_1:w14.cell? ⟨gb119,1,none⟩ = some (.string (⟨#[]⟩:ByteArray)):=(blk_cell BK119.out 1).trans rfl;have hfz18_0:=blk_frozen BK119.out 0;have hfz18_1:=blk_frozen BK119.out 1))
 (try simp only [Act.put,List.setIfInBounds_toArray,List.set_cons_zero,List.set_cons_succ])
 go_cut [26] (fun v26 wc=>∃ (kq:Nat) (x26_4:Bool),v26 = .bool x26_4∧Aside0 (integer_both.j0 kq x26_4 t112 t113 t116 t117 = some (r1,r2,r3,r4,r5))∧Aside0 (kq≤k)∧Aside0 (wc.heap[gb110]? = some (.cells #[.bool false,.string (⟨#[]⟩:ByteArray)] 43 (0,0)))∧Aside0 (wc.heap[gb111]? = some (.cells #[.bool false,.string (⟨#[]⟩:ByteArray)] 43 (0,0)))∧Aside0 (wc.heap[gb115]? = some (.cells #[.bool t112,.string t113] 43 (0,0)))∧Aside0 (wc.heap[gb119]? = some (.cells #[.bool t116,.string t117] 43 (0,0)))∧Aside0 (Below w.heap.size w wc))
 case first =>
  have H:=HC5.out
  clear HC5
  by_cases c19:t114 = true
  ·subst c19
   have H1:(integer_both.j0 k (!t118) t112 t113 t116 t117) = some (r1,r2,r3,r4,r5):=by rw [if_pos rfl] at H;exact H
   clear H
   have H:=H1
   clear H1
   have H':=Aside0.mk H
   clear H
   go_wp2
   go_meet
   case rel=>exact ⟨_,(!t118),(by first|rfl|(simp;done)|(simp [*];done)),H',⟨by first|omega|exact Nat.le_refl _⟩,⟨by (with_reducible repeat (first|refine blk_drewN ?_ _|refine blk_drew ?_|refine blk_alloc ?_ _));refine blk_far ?_ NB110_119.out _;(with_reducible repeat (first|refine blk_drewN ?_ _|refine blk_drew ?_|refine blk_alloc ?_ _));refine blk_far ?_ NB110_119.out _;(with_reducible repeat (first|refine blk_drewN ?_ _|refine blk_drew ?_|refine blk_alloc ?_ _));exact BK110.out⟩,⟨by (with_reducible repeat (first|refine blk_drewN ?_ _|refine blk_drew ?_|refine blk_alloc ?_ _));refine blk_far ?_ NB111_119.out _;(with_reducible repeat (first|refine blk_drewN ?_ _|refine blk_drew ?_|refine blk_alloc ?_ _));refine blk_far ?_ NB111_119.out _;(with_reducible repeat (first|refine blk_drewN ?_ _|refine blk_drew ?_|refine blk_alloc ?_ _));exact BK111.out⟩,⟨by (with_reducible repeat (first|refine blk_drewN ?_ _|refine blk_drew ?_|refine blk_alloc ?_ _));refine blk_far ?_ NB115_119.out _;(with_reducible repeat (first|refine blk_drewN ?_ _|refine blk_drew ?_|refine blk_alloc ?_ _));refine blk_far ?_ NB115_119.out _;(with_reducible repeat (first|refine blk_drewN ?_ _|refine blk_drew ?_|refine blk_alloc ?_ _));exact BK115.out⟩,⟨by (with_reducible repeat (first|refine blk_drewN ?_ _|refine blk_drew ?_|refine blk_alloc ?_ _));refine blk_put (cs:=#[.bool t116,.string (⟨#[]⟩:ByteArray)]) ?_ 1 _ rfl;(with_reducible repeat (first|refine blk_drewN ?_ _|refine blk_drew ?_|refine blk_alloc ?_ _));refine blk_put (cs:=#[.bool false,.string (⟨#[]⟩:ByteArray)]) ?_ 0 _ rfl;(with_reducible repeat (first|refine blk_drewN ?_ _|refine blk_drew ?_|refine blk_alloc ?_ _));exact BK119.out⟩,⟨by repeat (first|(with_reducible first|exact HB.out|apply below_alloc|apply pw_below_drewN|apply below_drew1|refine below_set ?_ GE110.out|refine below_set ?_ GE111.out|refine below_set ?_ GE115.out|refine below_set ?_ GE119.out)|exact HB.out)⟩⟩
  ·replace c19:=Bool.eq_false_iff.mpr c19
   subst c19
   have H1:(integer_both.j0 k true t112 t113 t116 t117) = some (r1,r2,r3,r4,r5):=by rw [if_neg (show ¬ (false = true) by decide)] at H;exact H
   clear H
   have H:=H1
   clear H1
   have H':=Aside0.mk H
   clear H
   go_wp2
   go_meet
   case rel=>exact ⟨_,(true),(by first|rfl|(simp;done)|(simp [*];done)),H',⟨by first|omega|exact Nat.le_refl _⟩,⟨by (with_reducible repeat (first|refine blk_drewN ?_ _|refine blk_drew ?_|refine blk_alloc ?_ _));refine blk_far ?_ NB110_119.out _;(with_reducible repeat (first|refine blk_drewN ?_ _|refine blk_drew ?_|refine blk_alloc ?_ _));refine blk_far ?_ NB110_119.out _;(with_reducible repeat (first|refine blk_drewN ?_ _|refine blk_drew ?_|refine blk_alloc ?_ _));exact BK110.out⟩,⟨by (with_reducible repeat (first|refine blk_drewN ?_ _|refine blk_drew ?_|refine blk_alloc ?_ _));refine blk_far ?_ NB111_119.out _;(with_reducible repeat (first|refine blk_drewN ?_ _|refine blk_drew ?_|refine blk_alloc ?_ _));refine blk_far ?_ NB111_119.out _;(with_reducible repeat (first|refine blk_drewN ?_ _|refine blk_drew ?_|refine blk_alloc ?_ _));exact BK111.out⟩,⟨by (with_reducible repeat (first|refine blk_drewN ?_ _|refine blk_drew ?_|refine blk_alloc ?_ _));refine blk_far ?_ NB115_119.out _;(with_reducible repeat (first|refine blk_drewN ?_ _|refine blk_drew ?_|refine blk_alloc ?_ _));refine blk_far ?_ NB115_119.out _;(with_reducible repeat (first|refine blk_drewN ?_ _|refine blk_drew ?_|refine blk_alloc ?_ _));exact BK115.out⟩,⟨by (with_reducible repeat (first|refine blk_drewN ?_ _|refine blk_drew ?_|refine blk_alloc ?_ _));refine blk_put (cs:=#[.bool t116,.string (⟨#[]⟩:ByteArray)]) ?_ 1 _ rfl;(with_reducible repeat (first|refine blk_drewN ?_ _|refine blk_drew ?_|refine blk_alloc ?_ _));refine blk_put (cs:=#[.bool false,.string (⟨#[]⟩:ByteArray)]) ?_ 0 _ rfl;(with_reducible repeat (first|refine blk_drewN ?_ _|refine blk_drew ?_|refine blk_alloc ?_ _));exact BK119.out⟩,⟨by repeat (first|(with_reducible first|exact HB.out|apply below_alloc|apply pw_below_drewN|apply below_drew1|refine below_set ?_ GE110.out|refine below_set ?_ GE111.out|refine below_set ?_ GE115.out|refine below_set ?_ GE119.out)|exact HB.out)⟩⟩
 case rest =>
  clear HC5
  try clear c1
  try clear p2
  try clear c4
  try clear c5
  try clear c10
  try clear c11
  try clear c15
  try clear c16
  try clear c17
  try clear c19
  try clear hcz12_0
  try clear hcz12_1
  try clear hcz18_0
  try clear hcz18_1
  try clear hfz12_0
  try clear hfz12_1
  try clear hfz18_0
  try clear hfz18_1
  obtain ⟨kq,x26_4,rfl,HA,HJ4,BK110,BK111,BK115,BK119,HB⟩:=hcut
  cases kq with
  | zero=>exact absurd HA.out (by simp [integer_both.j0])
  | succ kj4 =>
   have H:=HA.out
   clear HA
   simp only [integer_both.j0] at H
   by_cases c20:x26_4 = true
   ·subst c20
    have H1:((integer_zero.f).bind fun bt120=>((integer_zero.f).bind fun bt122=>(some (bt120.1,bt120.2,bt122.1,bt122.2,1)))) = some (r1,r2,r3,r4,r5):=by rw [if_pos rfl] at H;exact H
    clear H
    have H:=H1
    clear H1
    replace H:=Option.bind_eq_some_iff.mp H
    obtain ⟨⟨t120,t121⟩,A210,H⟩:=H
    replace H:((integer_zero.f).bind fun bt122=>(some (t120,t121,bt122.1,bt122.2,1))) = some (r1,r2,r3,r4,r5):=H
    have A21:=Aside0.mk A210
    clear A210
    replace H:=Option.bind_eq_some_iff.mp H
    obtain ⟨⟨t122,t123⟩,A220,H⟩:=H
    replace H:(some (t120,t121,t122,t123,1)) = some (r1,r2,r3,r4,r5):=H
    have A22:=Aside0.mk A220
    clear A220
    simp only [Option.some.injEq,Prod.mk.injEq] at H
    obtain ⟨rfl,rfl,rfl,rfl,rfl⟩:=H
    go_wp2_with (first|((with_reducible refine gate_callee (f:=59) rfl ?_);refine goesL_ (some 27) rfl rfl Tryz.func59 (by kernel_rfl) rfl #[] rfl (by (try simp only [List.map_toArray,List.map_cons,List.map_nil]);first|done|rfl|(simp only [List.length_drop,List.length_take];rfl)) ?_;(with_reducible refine (integer_zero.calls  t120 t121 _ A21.out).mono ?_);rintro e w23 ⟨rfl,hb⟩;refine ⟨_,rfl,?_⟩;have n0_:=Aside0.mk (blk_below (g:=gb110) (o:=.cells #[.bool false,.string (⟨#[]⟩:ByteArray)] 43 (0,0)) (by (with_reducible repeat (first|refine blk_drewN ?_ _|refine blk_drew ?_|refine blk_alloc ?_ _));exact BK110.out) hb);have n1_:=Aside0.mk (blk_below (g:=gb111) (o:=.cells #[.bool false,.string (⟨#[]⟩:ByteArray)] 43 (0,0)) (by (with_reducible repeat (first|refine blk_drewN ?_ _|refine blk_drew ?_|refine blk_alloc ?_ _));exact BK111.out) hb);have n2_:=Aside0.mk (blk_below (g:=gb115) (o:=.cells #[.bool t112,.string t113] 43 (0,0)) (by (with_reducible repeat (first|refine blk_drewN ?_ _|refine blk_drew ?_|refine blk_alloc ?_ _));exact BK115.out) hb);have n3_:=Aside0.mk (blk_below (g:=gb119) (o:=.cells #[.bool t116,.string t117] 43 (0,0)) (by (with_reducible repeat (first|refine blk_drewN ?_ _|refine blk_drew ?_|refine blk_alloc ?_ _));exact BK119.out) hb);have n4_:=Aside0.mk (below_step (by repeat (first|(with_reducible first|exact HB.out|apply below_alloc|apply pw_below_drewN|apply below_drew1|refine below_set ?_ GE110.out|refine below_set ?_ GE111.out|refine below_set ?_ GE115.out|refine below_set ?_ GE119.out)|exact HB.out)) hb);clear BK110;clear BK111;clear BK115;clear BK119;clear HB;have BK110:=n0_;have BK111:=n1_;have BK115:=n2_;have BK119:=n3_;have HB:=n4_;clear n0_ n1_ n2_ n3_ n4_;(try clear hb);(try clear hb2);(try clear hk);(try clear hi))|((with_reducible refine gate_callee (f:=59) rfl ?_);refine goesL_ (some 28) rfl rfl Tryz.func59 (by kernel_rfl) rfl #[] rfl (by (try simp only [List.map_toArray,List.map_cons,List.map_nil]);first|done|rfl|(simp only [List.length_drop,List.length_take];rfl)) ?_;(with_reducible refine (integer_zero.calls  t122 t123 _ A22.out).mono ?_);rintro e w24 ⟨rfl,hb⟩;refine ⟨_,rfl,?_⟩;have n0_:=Aside0.mk (blk_below (g:=gb110) (o:=.cells #[.bool false,.string (⟨#[]⟩:ByteArray)] 43 (0,0)) (by (with_reducible repeat (first|refine blk_drewN ?_ _|refine blk_drew ?_|refine blk_alloc ?_ _));exact BK110.out) hb);have n1_:=Aside0.mk (blk_below (g:=gb111) (o:=.cells #[.bool false,.string (⟨#[]⟩:ByteArray)] 43 (0,0)) (by (with_reducible repeat (first|refine blk_drewN ?_ _|refine blk_drew ?_|refine blk_alloc ?_ _));exact BK111.out) hb);have n2_:=Aside0.mk (blk_below (g:=gb115) (o:=.cells #[.bool t112,.string t113] 43 (0,0)) (by (with_reducible repeat (first|refine blk_drewN ?_ _|refine blk_drew ?_|refine blk_alloc ?_ _));exact BK115.out) hb);have n3_:=Aside0.mk (blk_below (g:=gb119) (o:=.cells #[.bool t116,.string t117] 43 (0,0)) (by (with_reducible repeat (first|refine blk_drewN ?_ _|refine blk_drew ?_|refine blk_alloc ?_ _));exact BK119.out) hb);have n4_:=Aside0.mk (below_step (by repeat (first|(with_reducible first|exact HB.out|apply below_alloc|apply pw_below_drewN|apply below_drew1|refine below_set ?_ GE110.out|refine below_set ?_ GE111.out|refine below_set ?_ GE115.out|refine below_set ?_ GE119.out)|exact HB.out)) hb);clear BK110;clear BK111;clear BK115;clear BK119;clear HB;have BK110:=n0_;have BK111:=n1_;have BK115:=n2_;have BK119:=n3_;have HB:=n4_;clear n0_ n1_ n2_ n3_ n4_;(try clear hb);(try clear hb2);(try clear hk);(try clear hi);have hnb25:=NB110_111.out;have hnc25:=NB111_110.out;have hnb26:=NB110_115.out;have hnc26:=NB115_110.out;have hnb27:=NB110_119.out;have hnc27:=NB119_110.out;have hcz28_0:w24.cell? ⟨gb110,0,none⟩ = some (.bool false):=(blk_cell BK110.out 0).trans rfl;have hcz28_1:w24.cell? ⟨gb110,1,none⟩ = some (.string (⟨#[]⟩:ByteArray)):=(blk_cell BK110.out 1).trans rfl;have hfz28_0:=blk_frozen BK110.out 0;have hfz28_1:=blk_frozen BK110.out 1;have hnb29:=NB111_115.out;have hnc29:=NB115_111.out;have hnb30:=NB111_119.out;have hnc30:=NB119_111.out;have hcz31_0:w24.cell? ⟨gb111,0,none⟩ = some (.bool false):=(blk_cell BK111.out 0).trans rfl;have hcz31_1:w24.cell? ⟨gb111,1,none⟩ = some (.string (⟨#[]⟩:ByteArray)):=(blk_cell BK111.out 1).trans rfl;have hfz31_0:=blk_frozen BK111.out 0;have hfz31_1:=blk_frozen BK111.out 1))
    refine bodyPost_ret (results_list (rs:=[.cell 4 43,.cell 5 43,.tmp 6]) rfl (by simp) (.cell gb110 43 #[.bool t120,.string t121] (0,0) _ rfl (by (with_reducible repeat (first|refine blk_drewN ?_ _|refine blk_drew ?_|refine blk_alloc ?_ _));refine blk_far ?_ NB110_111.out _;(with_reducible repeat (first|refine blk_drewN ?_ _|refine blk_drew ?_|refine blk_alloc ?_ _));refine blk_far ?_ NB110_111.out _;(with_reducible repeat (first|refine blk_drewN ?_ _|refine blk_drew ?_|refine blk_alloc ?_ _));refine blk_put (cs:=#[.bool t120,.string (⟨#[]⟩:ByteArray)]) ?_ 1 _ rfl;(with_reducible repeat (first|refine blk_drewN ?_ _|refine blk_drew ?_|refine blk_alloc ?_ _));refine blk_put (cs:=#[.bool false,.string (⟨#[]⟩:ByteArray)]) ?_ 0 _ rfl;(with_reducible repeat (first|refine blk_drewN ?_ _|refine blk_drew ?_|refine blk_alloc ?_ _));exact BK110.out) Tryz.underlying43 rfl (by kernel_rfl) (.cell gb111 43 #[.bool t122,.string t123] (0,0) _ rfl (by (with_reducible repeat (first|refine blk_drewN ?_ _|refine blk_drew ?_|refine blk_alloc ?_ _));refine blk_put (cs:=#[.bool t122,.string (⟨#[]⟩:ByteArray)]) ?_ 1 _ rfl;(with_reducible repeat (first|refine blk_drewN ?_ _|refine blk_drew ?_|refine blk_alloc ?_ _));refine blk_put (cs:=#[.bool false,.string (⟨#[]⟩:ByteArray)]) ?_ 0 _ rfl;(with_reducible repeat (first|refine blk_drewN ?_ _|refine blk_drew ?_|refine blk_alloc ?_ _));refine blk_far ?_ NB111_110.out _;(with_reducible repeat (first|refine blk_drewN ?_ _|refine blk_drew ?_|refine blk_alloc ?_ _));refine blk_far ?_ NB111_110.out _;(with_reducible repeat (first|refine blk_drewN ?_ _|refine blk_drew ?_|refine blk_alloc ?_ _));exact BK111.out) Tryz.underlying43 rfl (by kernel_rfl) (.tmp .nil)))) rfl ?_
    exact ⟨by first|rfl|(simp [errW_none,errW_some]<;>rfl)|(simp [*,errW_none,errW_some]<;>rfl),by repeat (first|(with_reducible first|exact HB.out|apply below_alloc|apply pw_below_drewN|apply below_drew1|refine below_set ?_ GE110.out|refine below_set ?_ GE111.out|refine below_set ?_ GE115.out|refine below_set ?_ GE119.out)|exact HB.out)⟩
   ·replace c20:=Bool.eq_false_iff.mpr c20
    subst c20
    have H1:(some (t112,t113,t116,t117,0)) = some (r1,r2,r3,r4,r5):=by rw [if_neg (show ¬ (false = true) by decide)] at H;exact H
    clear H
    have H:=H1
    clear H1
    simp only [Option.some.injEq,Prod.mk.injEq] at H
    obtain ⟨rfl,rfl,rfl,rfl,rfl⟩:=H
    try go_wp2
    have n0_:=Aside0.mk (blk_drew BK110.out)
    have n1_:=Aside0.mk (blk_drew BK111.out)
    have n2_:=Aside0.mk (blk_drew BK115.out)
    have n3_:=Aside0.mk (blk_drew BK119.out)
    have n4_:=Aside0.mk (below_drew1 HB.out)
    clear BK110
    clear BK111
    clear BK115
    clear BK119
    clear HB
    have BK110:=n0_
    have BK111:=n1_
    have BK115:=n2_
    have BK119:=n3_
    have HB:=n4_
    clear n0_ n1_ n2_ n3_ n4_
    refine start_ (n:=5) (S:=fun w'=>w'.cell? ⟨gb115,0,none⟩ = some (.bool t112)∧w'.cell? ⟨gb115,1,none⟩ = some (.string t113)∧w'.cell? ⟨gb119,0,none⟩ = some (.bool t116)∧w'.cell? ⟨gb119,1,none⟩ = some (.string t117)) (ds:=[]) #[false,false,false,false,false] (by kernel_rfl) rfl rfl ⟨(blk_cell BK115.out 0).trans rfl,(blk_cell BK115.out 1).trans rfl,(blk_cell BK119.out 0).trans rfl,(blk_cell BK119.out 1).trans rfl⟩ (fun hHeld=>?_)
    generalize wc.drew = w32 at BK110 BK111 BK115 BK119 HB hHeld ⊢
    refine take_ (i:=0) (N:=some 29) (v:=?_) (a':=?_) #[true,false,false,false,false] rfl rfl (by kernel_rfl) (fun _ _ _ h=>h) (Or.inl ⟨by rfl,?_⟩) hHeld ?_ ?_
    rotate_left
    ·rintro w' ⟨s0,s1,s2,s3⟩
     go_simp
     with_reducible rfl
    rotate_left
    ·simp only [Act.put,List.setIfInBounds_toArray,List.set_cons_zero,List.set_cons_succ,i64_w,i32_w]
     rfl
    refine take_ (i:=1) (N:=some 30) (v:=?_) (a':=?_) #[true,true,false,false,false] rfl rfl (by kernel_rfl) (fun _ _ _ h=>h) (Or.inl ⟨by rfl,?_⟩) hHeld ?_ ?_
    rotate_left
    ·rintro w' ⟨s0,s1,s2,s3⟩
     go_simp
     with_reducible rfl
    rotate_left
    ·simp only [Act.put,List.setIfInBounds_toArray,List.set_cons_zero,List.set_cons_succ,i64_w,i32_w]
     rfl
    refine one_ (i:=2) (N:=none) #[true,true,true,false,false] rfl rfl (by kernel_rfl) (by decide) (fun K hK=>?_)
    have hs33:w32.cell? ⟨gb110,0,none⟩ = some (.bool false):=(blk_cell BK110.out 0).trans rfl
    have hfs33:=blk_frozen BK110.out 0
    have hns33_1:=NB111_110.out
    have hns33_2:=NB115_110.out
    have hns33_3:=NB119_110.out
    have hms33_1:=NB110_111.out
    have hms33_2:=NB110_115.out
    have hms33_3:=NB110_119.out
    have hs34:w32.cell? ⟨gb110,1,none⟩ = some (.string (⟨#[]⟩:ByteArray)):=(blk_cell BK110.out 1).trans rfl
    have hfs34:=blk_frozen BK110.out 1
    have hns34_1:=NB111_110.out
    have hns34_2:=NB115_110.out
    have hns34_3:=NB119_110.out
    have hms34_1:=NB110_111.out
    have hms34_2:=NB110_115.out
    have hms34_3:=NB110_119.out
    refine skip_ (w1:=?_) (by rfl) rfl ?_ ?_
    rotate_left
    ·go_simp
     rfl
    refine hK.out _ _ ⟨((cell_far (p:=⟨gb110,_,none⟩) NB115_110.out _).trans (((cell_far (p:=⟨gb110,_,none⟩) NB115_110.out _).trans (hHeld.1)))),((cell_far (p:=⟨gb110,_,none⟩) NB115_110.out _).trans (((cell_far (p:=⟨gb110,_,none⟩) NB115_110.out _).trans (hHeld.2.1)))),((cell_far (p:=⟨gb110,_,none⟩) NB119_110.out _).trans (((cell_far (p:=⟨gb110,_,none⟩) NB119_110.out _).trans (hHeld.2.2.1)))),((cell_far (p:=⟨gb110,_,none⟩) NB119_110.out _).trans (((cell_far (p:=⟨gb110,_,none⟩) NB119_110.out _).trans (hHeld.2.2.2))))⟩ (fun hHeld=>?_)
    clear hK K
    refine one_ (i:=3) (N:=none) #[true,true,true,true,false] rfl rfl (by kernel_rfl) (by decide) (fun K hK=>?_)
    have hs35:w32.cell? ⟨gb111,0,none⟩ = some (.bool false):=(blk_cell BK111.out 0).trans rfl
    have hfs35:=blk_frozen BK111.out 0
    have hns35_0:=NB110_111.out
    have hns35_2:=NB115_111.out
    have hns35_3:=NB119_111.out
    have hms35_0:=NB111_110.out
    have hms35_2:=NB111_115.out
    have hms35_3:=NB111_119.out
    have hs36:w32.cell? ⟨gb111,1,none⟩ = some (.string (⟨#[]⟩:ByteArray)):=(blk_cell BK111.out 1).trans rfl
    have hfs36:=blk_frozen BK111.out 1
    have hns36_0:=NB110_111.out
    have hns36_2:=NB115_111.out
    have hns36_3:=NB119_111.out
    have hms36_0:=NB111_110.out
    have hms36_2:=NB111_115.out
    have hms36_3:=NB111_119.out
    refine skip_ (w1:=?_) (by rfl) rfl ?_ ?_
    rotate_left
    ·go_simp
     rfl
    refine hK.out _ _ ⟨((cell_far (p:=⟨gb111,_,none⟩) NB115_111.out _).trans (((cell_far (p:=⟨gb111,_,none⟩) NB115_111.out _).trans (hHeld.1)))),((cell_far (p:=⟨gb111,_,none⟩) NB115_111.out _).trans (((cell_far (p:=⟨gb111,_,none⟩) NB115_111.out _).trans (hHeld.2.1)))),((cell_far (p:=⟨gb111,_,none⟩) NB119_111.out _).trans (((cell_far (p:=⟨gb111,_,none⟩) NB119_111.out _).trans (hHeld.2.2.1)))),((cell_far (p:=⟨gb111,_,none⟩) NB119_111.out _).trans (((cell_far (p:=⟨gb111,_,none⟩) NB119_111.out _).trans (hHeld.2.2.2))))⟩ (fun hHeld=>?_)
    clear hK K
    refine pure_ (i:=4) (N:=some 6) (v:=?_) (a':=?_) #[true,true,true,true,true] rfl rfl (by kernel_rfl) (fun _ _ _ h=>h) (Or.inl ⟨by rfl,?_⟩) ?_ ?_
    rotate_left
    ·intro w'
     go_simp
     with_reducible rfl
    rotate_left
    ·simp only [Act.put,List.setIfInBounds_toArray,List.set_cons_zero,List.set_cons_succ,i64_w,i32_w]
     rfl
    refine done_ (by kernel_rfl) ?_
    try go_wp2
    refine bodyPost_ret (results_list (rs:=[.cell 4 43,.cell 5 43,.tmp 6]) rfl (by simp) (.cell gb110 43 #[.bool t112,.string t113] (0,0) _ rfl (by (with_reducible repeat (first|refine blk_drewN ?_ _|refine blk_drew ?_|refine blk_alloc ?_ _));refine blk_far ?_ NB110_111.out _;(with_reducible repeat (first|refine blk_drewN ?_ _|refine blk_drew ?_|refine blk_alloc ?_ _));refine blk_far ?_ NB110_111.out _;(with_reducible repeat (first|refine blk_drewN ?_ _|refine blk_drew ?_|refine blk_alloc ?_ _));refine blk_put (cs:=#[.bool t112,.string (⟨#[]⟩:ByteArray)]) ?_ 1 _ rfl;(with_reducible repeat (first|refine blk_drewN ?_ _|refine blk_drew ?_|refine blk_alloc ?_ _));refine blk_put (cs:=#[.bool false,.string (⟨#[]⟩:ByteArray)]) ?_ 0 _ rfl;(with_reducible repeat (first|refine blk_drewN ?_ _|refine blk_drew ?_|refine blk_alloc ?_ _));exact BK110.out) Tryz.underlying43 rfl (by kernel_rfl) (.cell gb111 43 #[.bool t116,.string t117] (0,0) _ rfl (by (with_reducible repeat (first|refine blk_drewN ?_ _|refine blk_drew ?_|refine blk_alloc ?_ _));refine blk_put (cs:=#[.bool t116,.string (⟨#[]⟩:ByteArray)]) ?_ 1 _ rfl;(with_reducible repeat (first|refine blk_drewN ?_ _|refine blk_drew ?_|refine blk_alloc ?_ _));refine blk_put (cs:=#[.bool false,.string (⟨#[]⟩:ByteArray)]) ?_ 0 _ rfl;(with_reducible repeat (first|refine blk_drewN ?_ _|refine blk_drew ?_|refine blk_alloc ?_ _));refine blk_far ?_ NB111_110.out _;(with_reducible repeat (first|refine blk_drewN ?_ _|refine blk_drew ?_|refine blk_alloc ?_ _));refine blk_far ?_ NB111_110.out _;(with_reducible repeat (first|refine blk_drewN ?_ _|refine blk_drew ?_|refine blk_alloc ?_ _));exact BK111.out) Tryz.underlying43 rfl (by kernel_rfl) (.tmp .nil)))) rfl ?_
    exact ⟨by first|rfl|(simp [errW_none,errW_some]<;>rfl)|(simp [*,errW_none,errW_some]<;>rfl),by repeat (first|(with_reducible first|exact HB.out|apply below_alloc|apply pw_below_drewN|apply below_drew1|refine below_set ?_ GE110.out|refine below_set ?_ GE111.out|refine below_set ?_ GE115.out|refine below_set ?_ GE119.out)|exact HB.out)⟩
end Go.Proofs.YtaknchlegjcdhaaGreatDoor.Pr
namespace Go.Proofs.YtaknchlegjcdhaaGreatDoor.Pr
open Go.RowKit Go.Proofs.YtaknchlegjcdhaaGreatDoorW.PrintWords Go.Proofs.YtaknchlegjcdhaaGreatDoorW.PrintLast Go.Proofs.YtaknchlegjcdhaaGreatDoorW.PrintMore
attribute [local go_sem] max2_int min2_int max_two min_two max_three min_three max_four min_four
set_option linter.unusedVariables false
set_option linter.unusedSimpArgs false
def integer_one.f (k:Nat) (a0:ByteArray):Option (Bool × ByteArray × Int):=(integer_both.f k a0 (⟨#[48]⟩:ByteArray)).bind fun bt125=>(some (bt125.1,bt125.2.1,bt125.2.2.2.2))
theorem integer_one.mono:∀ a0 k,LeO (integer_one.f k a0) (integer_one.f (k + 1) a0):=by
 intro a0 k
 unfold integer_one.f
 repeat' first
   | (with_reducible exact integer_both.mono _ _ _)
   | (with_reducible exact LeO.refl _)
   | (with_reducible exact LeO.none _)
   | (with_reducible refine LeO.ite ?_ ?_)
   | (with_reducible refine LeO.bind ?_ (fun _=>?_))
   | exact integer_both.mono _ _ _
   | exact LeO.none _
   | refine LeO.ite ?_ ?_
   | refine LeO.bind ?_ (fun _=>?_)
set_option maxHeartbeats 8000000 in
set_option maxRecDepth 100000 in
theorem integer_one.calls (k:Nat) (a0:ByteArray) (r1:Bool) (r2:ByteArray) (r3:Int) (w:World) (h:integer_one.f k a0 = some (r1,r2,r3)) :
  Calls Tryz.prog 39 #[.string a0] w fun e w'=>e = .returned (.tuple #[.agg #[.bool r1,.string r2],.int .i64 r3])∧Below w.heap.size w w':=by
 have hu43:=Tryz.underlying43
 have HB:=Aside0.mk (Below.refl w.heap.size w)
 have H:((integer_both.f k a0 (⟨#[48]⟩:ByteArray)).bind fun bt125=>(some (bt125.1,bt125.2.1,bt125.2.2.2.2))) = some (r1,r2,r3):=h
 clear h
 replace H:=Option.bind_eq_some_iff.mp H
 obtain ⟨⟨t125,t126,t127,t128,t129⟩,A20,H⟩:=H
 replace H:(some (t125,t126,t129)) = some (r1,r2,r3):=H
 have A2:=Aside0.mk A20
 clear A20
 simp only [Option.some.injEq,Prod.mk.injEq] at H
 obtain ⟨rfl,rfl,rfl⟩:=H
 go_enter Tryz.func39,Tryz.ntmps39
 go_wp2_with (first|((with_reducible refine gate_dst (N:=2) rfl ?_);refine box_event ?hg (N:=2) ?hd (cs:=#[.bool false,.string (⟨#[]⟩:ByteArray)]) (t:=43) ?hr ?_;(case hd=>rfl);(case hg=>rfl);(case hr=>first|(go_simp;done)|(go_simp;rfl));intro gb124 hg w3 hbox hb;have n0_:=Aside0.mk (below_step (by repeat (first|(with_reducible first|exact HB.out|apply below_alloc|apply pw_below_drewN|apply below_drew1)|exact HB.out)) hb);have n1_:=Aside0.mk (hbox);have n2_:=Aside0.mk ((by rw [hg];exact (below_size (by repeat (first|(with_reducible first|exact HB.out|apply below_alloc|apply pw_below_drewN|apply below_drew1)|exact HB.out))):w.heap.size≤gb124));have n3_:=Aside0.mk ((by rw [hg];exact (below_size (by repeat (first|(with_reducible first|exact HB.out|apply below_alloc|apply pw_below_drewN|apply below_drew1)|exact HB.out))):w.heap.size≤gb124));clear HB;have HB:=n0_;have BK124:=n1_;have GW124:=n2_;have GE124:=n3_;clear n0_ n1_ n2_ n3_;clear hb hbox hg)|((with_reducible refine gate_callee (f:=51) rfl ?_);refine goesL_ (some 9) rfl rfl Tryz.func51 (by kernel_rfl) rfl #[.string a0,.string (⟨#[48]⟩:ByteArray)] rfl (by (try simp only [List.map_toArray,List.map_cons,List.map_nil]);first|done|rfl|(simp only [List.length_drop,List.length_take];rfl)) ?_;(with_reducible refine (integer_both.calls k a0 (⟨#[48]⟩:ByteArray) t125 t126 t127 t128 t129 _ A2.out).mono ?_);rintro e w4 ⟨rfl,hb⟩;refine ⟨_,rfl,?_⟩;have n0_:=Aside0.mk (blk_below (g:=gb124) (o:=.cells #[.bool false,.string (⟨#[]⟩:ByteArray)] 43 (0,0)) (by (with_reducible repeat (first|refine blk_drewN ?_ _|refine blk_drew ?_|refine blk_alloc ?_ _));exact BK124.out) hb);have n1_:=Aside0.mk (below_step (by repeat (first|(with_reducible first|exact HB.out|apply below_alloc|apply pw_below_drewN|apply below_drew1|refine below_set ?_ GE124.out)|exact HB.out)) hb);clear BK124;clear HB;have BK124:=n0_;have HB:=n1_;clear n0_ n1_;(try clear hb);(try clear hb2);(try clear hk);(try clear hi))|((with_reducible refine gate_dst (N:=4) rfl ?_);refine box_event ?hg (N:=4) ?hd (cs:=#[.bool false,.string (⟨#[]⟩:ByteArray)]) (t:=43) ?hr ?_;(case hd=>rfl);(case hg=>rfl);(case hr=>first|(go_simp;done)|(go_simp;rfl));intro gb130 hg w5 hbox hb;have n0_:=Aside0.mk (blk_below (g:=gb124) (o:=.cells #[.bool false,.string (⟨#[]⟩:ByteArray)] 43 (0,0)) (by (with_reducible repeat (first|refine blk_drewN ?_ _|refine blk_drew ?_|refine blk_alloc ?_ _));exact BK124.out) hb);have n1_:=Aside0.mk (below_step (by repeat (first|(with_reducible first|exact HB.out|apply below_alloc|apply pw_below_drewN|apply below_drew1|refine below_set ?_ GE124.out)|exact HB.out)) hb);have n2_:=Aside0.mk (hbox);have n3_:=Aside0.mk ((by rw [hg];exact (below_size (by repeat (first|(with_reducible first|exact HB.out|apply below_alloc|apply pw_below_drewN|apply below_drew1|refine below_set ?_ GE124.out)|exact HB.out))):w.heap.size≤gb130));have n4_:=Aside0.mk ((by rw [hg];exact (below_size (by repeat (first|(with_reducible first|exact HB.out|apply below_alloc|apply pw_below_drewN|apply below_drew1|refine below_set ?_ GE124.out)|exact HB.out))):w.heap.size≤gb130));have n5_:=Aside0.mk ((by rw [hg];exact Nat.ne_of_lt (blk_lt (g:=gb124) (o:=.cells #[.bool false,.string (⟨#[]⟩:ByteArray)] 43 (0,0)) (by (with_reducible repeat (first|refine blk_drewN ?_ _|refine blk_drew ?_|refine blk_alloc ?_ _));exact BK124.out)):gb124≠gb130));have n6_:=Aside0.mk ((by rw [hg];exact Nat.ne_of_gt (blk_lt (g:=gb124) (o:=.cells #[.bool false,.string (⟨#[]⟩:ByteArray)] 43 (0,0)) (by (with_reducible repeat (first|refine blk_drewN ?_ _|refine blk_drew ?_|refine blk_alloc ?_ _));exact BK124.out)):gb130≠gb124));clear BK124;clear HB;have BK124:=n0_;have HB:=n1_;have BK130:=n2_;have GW130:=n3_;have GE130:=n4_;have NB124_130:=n5_;have NB130_124:=n6_;clear n0_ n1_ n2_ n3_ n4_ n5_ n6_;clear hb hbox hg)|((with_reducible refine gate_dst (N:=5) rfl ?_);refine box_event ?hg (N:=5) ?hd (cs:=#[.bool false,.string (⟨#[]⟩:ByteArray)]) (t:=43) ?hr ?_;(case hd=>rfl);(case hg=>rfl);(case hr=>first|(go_simp;done)|(go_simp;rfl));intro gb131 hg w6 hbox hb;have n0_:=Aside0.mk (blk_below (g:=gb124) (o:=.cells #[.bool false,.string (⟨#[]⟩:ByteArray)] 43 (0,0)) (by (with_reducible repeat (first|refine blk_drewN ?_ _|refine blk_drew ?_|refine blk_alloc ?_ _));exact BK124.out) hb);have n1_:=Aside0.mk (blk_below (g:=gb130) (o:=.cells #[.bool false,.string (⟨#[]⟩:ByteArray)] 43 (0,0)) (by (with_reducible repeat (first|refine blk_drewN ?_ _|refine blk_drew ?_|refine blk_alloc ?_ _));exact BK130.out) hb);have n2_:=Aside0.mk (below_step (by repeat (first|(with_reducible first|exact HB.out|apply below_alloc|apply pw_below_drewN|apply below_drew1|refine below_set ?_ GE124.out|refine below_set ?_ GE130.out)|exact HB.out)) hb);have n3_:=Aside0.mk (hbox);have n4_:=Aside0.mk ((by rw [hg];exact (below_size (by repeat (first|(with_reducible first|exact HB.out|apply below_alloc|apply pw_below_drewN|apply below_drew1|refine below_set ?_ GE124.out|refine below_set ?_ GE130.out)|exact HB.out))):w.heap.size≤gb131));have n5_:=Aside0.mk ((by rw [hg];exact (below_size (by repeat (first|(with_reducible first|exact HB.out|apply below_alloc|apply pw_below_drewN|apply below_drew1|refine below_set ?_ GE124.out|refine below_set ?_ GE130.out)|exact HB.out))):w.heap.size≤gb131));have n6_:=Aside0.mk ((by rw [hg];exact Nat.ne_of_lt (blk_lt (g:=gb124) (o:=.cells #[.bool false,.string (⟨#[]⟩:ByteArray)] 43 (0,0)) (by (with_reducible repeat (first|refine blk_drewN ?_ _|refine blk_drew ?_|refine blk_alloc ?_ _));exact BK124.out)):gb124≠gb131));have n7_:=Aside0.mk ((by rw [hg];exact Nat.ne_of_gt (blk_lt (g:=gb124) (o:=.cells #[.bool false,.string (⟨#[]⟩:ByteArray)] 43 (0,0)) (by (with_reducible repeat (first|refine blk_drewN ?_ _|refine blk_drew ?_|refine blk_alloc ?_ _));exact BK124.out)):gb131≠gb124));have n8_:=Aside0.mk ((by rw [hg];exact Nat.ne_of_lt (blk_lt (g:=gb130) (o:=.cells #[.bool false,.string (⟨#[]⟩:ByteArray)] 43 (0,0)) (by (with_reducible repeat (first|refine blk_drewN ?_ _|refine blk_drew ?_|refine blk_alloc ?_ _));exact BK130.out)):gb130≠gb131));have n9_:=Aside0.mk ((by rw [hg];exact Nat.ne_of_gt (blk_lt (g:=gb130) (o:=.cells #[.bool false,.string (⟨#[]⟩:ByteArray)] 43 (0,0)) (by (with_reducible repeat (first|refine blk_drewN ?_ _|refine blk_drew ?_|refine blk_alloc ?_ _));exact BK130.out)):gb131≠gb130));clear BK124;clear BK130;clear HB;have BK124:=n0_;have BK130:=n1_;have HB:=n2_;have BK131:=n3_;have GW131:=n4_;have GE131:=n5_;have NB124_131:=n6_;have NB131_124:=n7_;have NB130_131:=n8_;have NB131_130:=n9_;clear n0_ n1_ n2_ n3_ n4_ n5_ n6_ n7_ n8_ n9_;clear hb hbox hg;have hnb7:=NB130_124.out;have hnc7:=NB124_130.out;have hnb8:=NB130_131.out;have hnc8:=NB131_130.out;have hcz9_0:w6.cell? ⟨gb130,0,none⟩ = some (.bool false):=(blk_cell BK130.out 0).trans rfl;have hcz9_1:w6.cell? ⟨gb130,1,none⟩ = some (.string (⟨#[]⟩:ByteArray)):=(blk_cell BK130.out 1).trans rfl;have hfz9_0:=blk_frozen BK130.out 0;have hfz9_1:=blk_frozen BK130.out 1;have hnb10:=NB131_124.out;have hnc10:=NB124_131.out;have hcz11_0:w6.cell? ⟨gb131,0,none⟩ = some (.bool false):=(blk_cell BK131.out 0).trans rfl;have hcz11_1:w6.cell? ⟨gb131,1,none⟩ = some (.string (⟨#[]⟩:ByteArray)):=(blk_cell BK131.out 1).trans rfl;have hfz11_0:=blk_frozen BK131.out 0;have hfz11_1:=blk_frozen BK131.out 1;have hcz12_0:w6.cell? ⟨gb124,0,none⟩ = some (.bool false):=(blk_cell BK124.out 0).trans rfl;have hcz12_1:w6.cell? ⟨gb124,1,none⟩ = some (.string (⟨#[]⟩:ByteArray)):=(blk_cell BK124.out 1).trans rfl;have hfz12_0:=blk_frozen BK124.out 0;have hfz12_1:=blk_frozen BK124.out 1))
 refine bodyPost_ret (results_ct rfl _ _ gb124 43 #[.bool t125,.string t126] (0,0) _ rfl (by (with_reducible repeat (first|refine blk_drewN ?_ _|refine blk_drew ?_|refine blk_alloc ?_ _));refine blk_put (cs:=#[.bool t125,.string (⟨#[]⟩:ByteArray)]) ?_ 1 _ rfl;(with_reducible repeat (first|refine blk_drewN ?_ _|refine blk_drew ?_|refine blk_alloc ?_ _));refine blk_put (cs:=#[.bool false,.string (⟨#[]⟩:ByteArray)]) ?_ 0 _ rfl;(with_reducible repeat (first|refine blk_drewN ?_ _|refine blk_drew ?_|refine blk_alloc ?_ _));refine blk_far ?_ NB124_131.out _;(with_reducible repeat (first|refine blk_drewN ?_ _|refine blk_drew ?_|refine blk_alloc ?_ _));refine blk_far ?_ NB124_131.out _;(with_reducible repeat (first|refine blk_drewN ?_ _|refine blk_drew ?_|refine blk_alloc ?_ _));refine blk_far ?_ NB124_130.out _;(with_reducible repeat (first|refine blk_drewN ?_ _|refine blk_drew ?_|refine blk_alloc ?_ _));refine blk_far ?_ NB124_130.out _;(with_reducible repeat (first|refine blk_drewN ?_ _|refine blk_drew ?_|refine blk_alloc ?_ _));exact BK124.out) Tryz.underlying43 rfl (by kernel_rfl)) rfl ?_
 exact ⟨by first|rfl|(simp [errW_none,errW_some]<;>rfl)|(simp [*,errW_none,errW_some]<;>rfl),by repeat (first|(with_reducible first|exact HB.out|apply below_alloc|apply pw_below_drewN|apply below_drew1|refine below_set ?_ GE124.out|refine below_set ?_ GE130.out|refine below_set ?_ GE131.out)|exact HB.out)⟩
end Go.Proofs.YtaknchlegjcdhaaGreatDoor.Pr
namespace Go.Proofs.YtaknchlegjcdhaaGreatDoor.Pr
open Go.RowKit Go.Proofs.YtaknchlegjcdhaaGreatDoorW.PrintWords Go.Proofs.YtaknchlegjcdhaaGreatDoorW.PrintLast Go.Proofs.YtaknchlegjcdhaaGreatDoorW.PrintMore
attribute [local go_sem] max2_int min2_int max_two min_two max_three min_three max_four min_four
set_option linter.unusedVariables false
set_option linter.unusedSimpArgs false
attribute [local go_sem high] eqA43
def integer_number_sign.f (a0_0:Bool) (a0_1:ByteArray):Option (Int):=(integer_zero.f).bind fun bt133=>(if (a0_0 == bt133.1 && (a0_1.toList == bt133.2.toList)) = true then (some 0) else (if a0_0 = true then (some (-1)) else (some 1)))
set_option maxHeartbeats 8000000 in
set_option maxRecDepth 100000 in
theorem integer_number_sign.calls (a0_0:Bool) (a0_1:ByteArray) (r:Int) (w:World) (h:integer_number_sign.f a0_0 a0_1 = some r) :
  Calls Tryz.prog 40 #[.agg #[.bool a0_0,.string a0_1]] w fun e w'=>e = .returned (.int .i64 r)∧Below w.heap.size w w':=by
 have hu43:=Tryz.underlying43
 have HB:=Aside0.mk (Below.refl w.heap.size w)
 have H:((integer_zero.f).bind fun bt133=>(if (a0_0 == bt133.1 && (a0_1.toList == bt133.2.toList)) = true then (some 0) else (if a0_0 = true then (some (-1)) else (some 1)))) = some r:=h
 clear h
 replace H:=Option.bind_eq_some_iff.mp H
 obtain ⟨⟨t133,t134⟩,A20,H⟩:=H
 replace H:(if (a0_0 == t133 && (a0_1.toList == t134.toList)) = true then (some 0) else (if a0_0 = true then (some (-1)) else (some 1))) = some r:=H
 have A2:=Aside0.mk A20
 clear A20
 by_cases c3:(a0_0 == t133 && (a0_1.toList == t134.toList)) = true
 ·rw [if_pos c3] at H
  have c3b0:(a0_0 == t133 && (a0_1.toList == t134.toList)) = true:=c3
  (try (have c3b1:decide (a0_0 = t133 && (a0_1.toList == t134.toList)) = true:=by simpa using c3))
  (try (have c3b2:(a0_0 == t133 && (a0_1.toList == t134.toList)) = true:=by simpa using c3))
  clear c3
  obtain rfl:=Option.some.inj H
  go_enter Tryz.func40,Tryz.ntmps40
  try go_wp2_with (first|((with_reducible refine gate_dst (N:=1) rfl ?_);refine box_event ?hg (N:=1) ?hd (cs:=#[.bool a0_0,.string a0_1]) (t:=43) ?hr ?_;(case hd=>rfl);(case hg=>rfl);(case hr=>first|(go_simp;done)|(go_simp;rfl));intro gb132 hg w4 hbox hb;have n0_:=Aside0.mk (below_step (by repeat (first|(with_reducible first|exact HB.out|apply below_alloc|apply pw_below_drewN|apply below_drew1)|exact HB.out)) hb);have n1_:=Aside0.mk (hbox);have n2_:=Aside0.mk ((by rw [hg];exact (below_size (by repeat (first|(with_reducible first|exact HB.out|apply below_alloc|apply pw_below_drewN|apply below_drew1)|exact HB.out))):w.heap.size≤gb132));have n3_:=Aside0.mk ((by rw [hg];exact (below_size (by repeat (first|(with_reducible first|exact HB.out|apply below_alloc|apply pw_below_drewN|apply below_drew1)|exact HB.out))):w.heap.size≤gb132));clear HB;have HB:=n0_;have BK132:=n1_;have GW132:=n2_;have GE132:=n3_;clear n0_ n1_ n2_ n3_;clear hb hbox hg))
  have n0_:=Aside0.mk (blk_drew BK132.out)
  have n1_:=Aside0.mk (below_drew1 HB.out)
  clear BK132
  clear HB
  have BK132:=n0_
  have HB:=n1_
  clear n0_ n1_
  refine start_ (n:=4) (S:=fun w'=>w'.cell? ⟨gb132,0,none⟩ = some (.bool a0_0)∧w'.cell? ⟨gb132,1,none⟩ = some (.string a0_1)) (ds:=[]) #[false,false,false,false] (by kernel_rfl) rfl rfl ⟨(blk_cell BK132.out 0).trans rfl,(blk_cell BK132.out 1).trans rfl⟩ (fun hHeld=>?_)
  generalize w4.drew = w5 at BK132 HB hHeld ⊢
  refine take_ (i:=0) (N:=some 4) (v:=?_) (a':=?_) #[true,false,false,false] rfl rfl (by kernel_rfl) (fun _ _ _ h=>h) (Or.inl ⟨by rfl,?_⟩) hHeld ?_ ?_
  rotate_left
  ·rintro w' ⟨s0,s1⟩
   go_simp
   with_reducible rfl
  rotate_left
  ·simp only [Act.put,List.setIfInBounds_toArray,List.set_cons_zero,List.set_cons_succ,i64_w,i32_w]
   rfl
  refine one_ (i:=1) (N:=some 5) #[true,true,false,false] rfl rfl (by kernel_rfl) (by decide) (fun K hK=>?_)
  refine goes_ Tryz.func59 (by kernel_rfl) rfl #[] (by rfl) rfl rfl (by (try simp only [List.map_toArray,List.map_cons,List.map_nil]);first|done|rfl|(simp only [List.length_drop,List.length_take];rfl)) ?_
  with_reducible refine (integer_zero.calls  t133 t134 _ A2.out).mono ?_
  rintro e w6 ⟨rfl,hb⟩
  refine ⟨_,rfl,?_⟩
  have n0_:=Aside0.mk (blk_below (g:=gb132) (o:=.cells #[.bool a0_0,.string a0_1] 43 (0,0)) (by (with_reducible repeat (first|refine blk_drewN ?_ _|refine blk_drew ?_|refine blk_alloc ?_ _));exact BK132.out) hb)
  have n1_:=Aside0.mk (below_step (by repeat (first|(with_reducible first|exact HB.out|apply below_alloc|apply pw_below_drewN|apply below_drew1|refine below_set ?_ GE132.out)|exact HB.out)) hb)
  clear BK132
  clear HB
  have BK132:=n0_
  have HB:=n1_
  clear n0_ n1_
  (try clear hb)
  (try clear hb2)
  (try clear hk)
  (try clear hi)
  refine hK.out _ _ ⟨(blk_cell BK132.out 0).trans rfl,(blk_cell BK132.out 1).trans rfl⟩ (fun hHeld=>?_)
  clear hK K
  refine norm_ (a':=?_) ?_ ?_
  rotate_left
  ·show Act.put _ (some 5) _ = _
   simp only [Act.put,List.setIfInBounds_toArray,List.set_cons_zero,List.set_cons_succ,i64_w,i32_w]
   rfl
  refine pure_ (i:=2) (N:=some 6) (v:=?_) (a':=?_) #[true,true,true,false] rfl rfl (by kernel_rfl) (fun _ _ _ h=>h) (Or.inl ⟨by rfl,?_⟩) ?_ ?_
  rotate_left
  ·intro w'
   go_simp
   with_reducible rfl
  rotate_left
  ·simp only [Act.put,List.setIfInBounds_toArray,List.set_cons_zero,List.set_cons_succ,i64_w,i32_w]
   rfl
  refine pure_ (i:=3) (N:=some 3) (v:=?_) (a':=?_) #[true,true,true,true] rfl rfl (by kernel_rfl) (fun _ _ _ h=>h) (Or.inl ⟨by rfl,?_⟩) ?_ ?_
  rotate_left
  ·intro w'
   go_simp
   with_reducible rfl
  rotate_left
  ·simp only [Act.put,List.setIfInBounds_toArray,List.set_cons_zero,List.set_cons_succ,i64_w,i32_w]
   rfl
  refine done_ (by kernel_rfl) ?_
  try go_wp2
  go_ret
  exact ⟨by first|rfl|(simp [errW_none,errW_some]<;>rfl)|(simp [*,errW_none,errW_some]<;>rfl),by repeat (first|(with_reducible first|exact HB.out|apply below_alloc|apply pw_below_drewN|apply below_drew1|refine below_set ?_ GE132.out)|exact HB.out)⟩
 ·rw [if_neg c3] at H
  have c3b0:(a0_0 == t133 && (a0_1.toList == t134.toList)) = false:=by simpa using c3
  (try (have c3b1:decide (a0_0 = t133 && (a0_1.toList == t134.toList)) = false:=by simpa using c3))
  (try (have c3b2:(a0_0 == t133 && (a0_1.toList == t134.toList)) = false:=by simpa using c3))
  (try (have c3b3:¬ (a0_0 = t133 && (a0_1.toList == t134.toList)):=by simpa using c3))
  clear c3
  by_cases c7:a0_0 = true
  ·subst c7
   have c3b9:¬ (t133 = true∧(a0_1.toList == t134.toList) = true):=by
    rintro ⟨e1,e⟩
    simp [e1,e] at c3b0
   have H1:(some (-1)) = some r:=by rw [if_pos rfl] at H;exact H
   clear H
   have H:=H1
   clear H1
   obtain rfl:=Option.some.inj H
   go_enter Tryz.func40,Tryz.ntmps40
   try go_wp2_with (first|((with_reducible refine gate_dst (N:=1) rfl ?_);refine box_event ?hg (N:=1) ?hd (cs:=#[.bool true,.string a0_1]) (t:=43) ?hr ?_;(case hd=>rfl);(case hg=>rfl);(case hr=>first|(go_simp;done)|(go_simp;rfl));intro gb132 hg w8 hbox hb;have n0_:=Aside0.mk (below_step (by repeat (first|(with_reducible first|exact HB.out|apply below_alloc|apply pw_below_drewN|apply below_drew1)|exact HB.out)) hb);have n1_:=Aside0.mk (hbox);have n2_:=Aside0.mk ((by rw [hg];exact (below_size (by repeat (first|(with_reducible first|exact HB.out|apply below_alloc|apply pw_below_drewN|apply below_drew1)|exact HB.out))):w.heap.size≤gb132));have n3_:=Aside0.mk ((by rw [hg];exact (below_size (by repeat (first|(with_reducible first|exact HB.out|apply below_alloc|apply pw_below_drewN|apply below_drew1)|exact HB.out))):w.heap.size≤gb132));clear HB;have HB:=n0_;have BK132:=n1_;have GW132:=n2_;have GE132:=n3_;clear n0_ n1_ n2_ n3_;clear hb hbox hg))
   have n0_:=Aside0.mk (blk_drew BK132.out)
   have n1_:=Aside0.mk (below_drew1 HB.out)
   clear BK132
   clear HB
   have BK132:=n0_
   have HB:=n1_
   clear n0_ n1_
   refine start_ (n:=4) (S:=fun w'=>w'.cell? ⟨gb132,0,none⟩ = some (.bool true)∧w'.cell? ⟨gb132,1,none⟩ = some (.string a0_1)) (ds:=[]) #[false,false,false,false] (by kernel_rfl) rfl rfl ⟨(blk_cell BK132.out 0).trans rfl,(blk_cell BK132.out 1).trans rfl⟩ (fun hHeld=>?_)
   generalize w8.drew = w9 at BK132 HB hHeld ⊢
   refine take_ (i:=0) (N:=some 4) (v:=?_) (a':=?_) #[true,false,false,false] rfl rfl (by kernel_rfl) (fun _ _ _ h=>h) (Or.inl ⟨by rfl,?_⟩) hHeld ?_ ?_
   rotate_left
   ·rintro w' ⟨s0,s1⟩
    go_simp
    with_reducible rfl
   rotate_left
   ·simp only [Act.put,List.setIfInBounds_toArray,List.set_cons_zero,List.set_cons_succ,i64_w,i32_w]
    rfl
   refine one_ (i:=1) (N:=some 5) #[true,true,false,false] rfl rfl (by kernel_rfl) (by decide) (fun K hK=>?_)
   refine goes_ Tryz.func59 (by kernel_rfl) rfl #[] (by rfl) rfl rfl (by (try simp only [List.map_toArray,List.map_cons,List.map_nil]);first|done|rfl|(simp only [List.length_drop,List.length_take];rfl)) ?_
   with_reducible refine (integer_zero.calls  t133 t134 _ A2.out).mono ?_
   rintro e w10 ⟨rfl,hb⟩
   refine ⟨_,rfl,?_⟩
   have n0_:=Aside0.mk (blk_below (g:=gb132) (o:=.cells #[.bool true,.string a0_1] 43 (0,0)) (by (with_reducible repeat (first|refine blk_drewN ?_ _|refine blk_drew ?_|refine blk_alloc ?_ _));exact BK132.out) hb)
   have n1_:=Aside0.mk (below_step (by repeat (first|(with_reducible first|exact HB.out|apply below_alloc|apply pw_below_drewN|apply below_drew1|refine below_set ?_ GE132.out)|exact HB.out)) hb)
   clear BK132
   clear HB
   have BK132:=n0_
   have HB:=n1_
   clear n0_ n1_
   (try clear hb)
   (try clear hb2)
   (try clear hk)
   (try clear hi)
   refine hK.out _ _ ⟨(blk_cell BK132.out 0).trans rfl,(blk_cell BK132.out 1).trans rfl⟩ (fun hHeld=>?_)
   clear hK K
   refine norm_ (a':=?_) ?_ ?_
   rotate_left
   ·show Act.put _ (some 5) _ = _
    simp only [Act.put,List.setIfInBounds_toArray,List.set_cons_zero,List.set_cons_succ,i64_w,i32_w]
    rfl
   refine pure_ (i:=2) (N:=some 6) (v:=?_) (a':=?_) #[true,true,true,false] rfl rfl (by kernel_rfl) (fun _ _ _ h=>h) (Or.inl ⟨by rfl,?_⟩) ?_ ?_
   rotate_left
   ·intro w'
    go_simp
    with_reducible rfl
   rotate_left
   ·simp only [Act.put,List.setIfInBounds_toArray,List.set_cons_zero,List.set_cons_succ,i64_w,i32_w]
    rfl
   refine pure_ (i:=3) (N:=some 3) (v:=?_) (a':=?_) #[true,true,true,true] rfl rfl (by kernel_rfl) (fun _ _ _ h=>h) (Or.inl ⟨by rfl,?_⟩) ?_ ?_
   rotate_left
   ·intro w'
    go_simp
    with_reducible rfl
   rotate_left
   ·simp only [Act.put,List.setIfInBounds_toArray,List.set_cons_zero,List.set_cons_succ,i64_w,i32_w]
    rfl
   refine done_ (by kernel_rfl) ?_
   have hcz11_0:w10.cell? ⟨gb132,0,none⟩ = some (.bool true):=(blk_cell BK132.out 0).trans rfl
   have hcz11_1:w10.cell? ⟨gb132,1,none⟩ = some (.string a0_1):=(blk_cell BK132.out 1).trans rfl
   have hfz11_0:=blk_frozen BK132.out 0
   have hfz11_1:=blk_frozen BK132.out 1
   try go_wp2
   all_goals first
    | (exfalso;rename_i hx;exact c3b9 hx)
    | (go_ret;exact ⟨by first|rfl|(simp [errW_none,errW_some]<;>rfl)|(simp [*,errW_none,errW_some]<;>rfl),by repeat (first|(with_reducible first|exact HB.out|apply below_alloc|apply pw_below_drewN|apply below_drew1|refine below_set ?_ GE132.out)|exact HB.out)⟩)
  ·replace c7:=Bool.eq_false_iff.mpr c7
   subst c7
   have c3b9:¬ ((!t133) = true∧(a0_1.toList == t134.toList) = true):=by
    rintro ⟨e1,e⟩
    simp only [Bool.not_eq_true'] at e1
    simp [e1,e] at c3b0
   have H1:(some 1) = some r:=by rw [if_neg (show ¬ (false = true) by decide)] at H;exact H
   clear H
   have H:=H1
   clear H1
   obtain rfl:=Option.some.inj H
   go_enter Tryz.func40,Tryz.ntmps40
   try go_wp2_with (first|((with_reducible refine gate_dst (N:=1) rfl ?_);refine box_event ?hg (N:=1) ?hd (cs:=#[.bool false,.string a0_1]) (t:=43) ?hr ?_;(case hd=>rfl);(case hg=>rfl);(case hr=>first|(go_simp;done)|(go_simp;rfl));intro gb132 hg w12 hbox hb;have n0_:=Aside0.mk (below_step (by repeat (first|(with_reducible first|exact HB.out|apply below_alloc|apply pw_below_drewN|apply below_drew1)|exact HB.out)) hb);have n1_:=Aside0.mk (hbox);have n2_:=Aside0.mk ((by rw [hg];exact (below_size (by repeat (first|(with_reducible first|exact HB.out|apply below_alloc|apply pw_below_drewN|apply below_drew1)|exact HB.out))):w.heap.size≤gb132));have n3_:=Aside0.mk ((by rw [hg];exact (below_size (by repeat (first|(with_reducible first|exact HB.out|apply below_alloc|apply pw_below_drewN|apply below_drew1)|exact HB.out))):w.heap.size≤gb132));clear HB;have HB:=n0_;have BK132:=n1_;have GW132:=n2_;have GE132:=n3_;clear n0_ n1_ n2_ n3_;clear hb hbox hg))
   have n0_:=Aside0.mk (blk_drew BK132.out)
   have n1_:=Aside0.mk (below_drew1 HB.out)
   clear BK132
   clear HB
   have BK132:=n0_
   have HB:=n1_
   clear n0_ n1_
   refine start_ (n:=4) (S:=fun w'=>w'.cell? ⟨gb132,0,none⟩ = some (.bool false)∧w'.cell? ⟨gb132,1,none⟩ = some (.string a0_1)) (ds:=[]) #[false,false,false,false] (by kernel_rfl) rfl rfl ⟨(blk_cell BK132.out 0).trans rfl,(blk_cell BK132.out 1).trans rfl⟩ (fun hHeld=>?_)
   generalize w12.drew = w13 at BK132 HB hHeld ⊢
   refine take_ (i:=0) (N:=some 4) (v:=?_) (a':=?_) #[true,false,false,false] rfl rfl (by kernel_rfl) (fun _ _ _ h=>h) (Or.inl ⟨by rfl,?_⟩) hHeld ?_ ?_
   rotate_left
   ·rintro w' ⟨s0,s1⟩
    go_simp
    with_reducible rfl
   rotate_left
   ·simp only [Act.put,List.setIfInBounds_toArray,List.set_cons_zero,List.set_cons_succ,i64_w,i32_w]
    rfl
   refine one_ (i:=1) (N:=some 5) #[true,true,false,false] rfl rfl (by kernel_rfl) (by decide) (fun K hK=>?_)
   refine goes_ Tryz.func59 (by kernel_rfl) rfl #[] (by rfl) rfl rfl (by (try simp only [List.map_toArray,List.map_cons,List.map_nil]);first|done|rfl|(simp only [List.length_drop,List.length_take];rfl)) ?_
   with_reducible refine (integer_zero.calls  t133 t134 _ A2.out).mono ?_
   rintro e w14 ⟨rfl,hb⟩
   refine ⟨_,rfl,?_⟩
   have n0_:=Aside0.mk (blk_below (g:=gb132) (o:=.cells #[.bool false,.string a0_1] 43 (0,0)) (by (with_reducible repeat (first|refine blk_drewN ?_ _|refine blk_drew ?_|refine blk_alloc ?_ _));exact BK132.out) hb)
   have n1_:=Aside0.mk (below_step (by repeat (first|(with_reducible first|exact HB.out|apply below_alloc|apply pw_below_drewN|apply below_drew1|refine below_set ?_ GE132.out)|exact HB.out)) hb)
   clear BK132
   clear HB
   have BK132:=n0_
   have HB:=n1_
   clear n0_ n1_
   (try clear hb)
   (try clear hb2)
   (try clear hk)
   (try clear hi)
   refine hK.out _ _ ⟨(blk_cell BK132.out 0).trans rfl,(blk_cell BK132.out 1).trans rfl⟩ (fun hHeld=>?_)
   clear hK K
   refine norm_ (a':=?_) ?_ ?_
   rotate_left
   ·show Act.put _ (some 5) _ = _
    simp only [Act.put,List.setIfInBounds_toArray,List.set_cons_zero,List.set_cons_succ,i64_w,i32_w]
    rfl
   refine pure_ (i:=2) (N:=some 6) (v:=?_) (a':=?_) #[true,true,true,false] rfl rfl (by kernel_rfl) (fun _ _ _ h=>h) (Or.inl ⟨by rfl,?_⟩) ?_ ?_
   rotate_left
   ·intro w'
    go_simp
    with_reducible rfl
   rotate_left
   ·simp only [Act.put,List.setIfInBounds_toArray,List.set_cons_zero,List.set_cons_succ,i64_w,i32_w]
    rfl
   refine pure_ (i:=3) (N:=some 3) (v:=?_) (a':=?_) #[true,true,true,true] rfl rfl (by kernel_rfl) (fun _ _ _ h=>h) (Or.inl ⟨by rfl,?_⟩) ?_ ?_
   rotate_left
   ·intro w'
    go_simp
    with_reducible rfl
   rotate_left
   ·simp only [Act.put,List.setIfInBounds_toArray,List.set_cons_zero,List.set_cons_succ,i64_w,i32_w]
    rfl
   refine done_ (by kernel_rfl) ?_
   have hcz15_0:w14.cell? ⟨gb132,0,none⟩ = some (.bool false):=(blk_cell BK132.out 0).trans rfl
   have hcz15_1:w14.cell? ⟨gb132,1,none⟩ = some (.string a0_1):=(blk_cell BK132.out 1).trans rfl
   have hfz15_0:=blk_frozen BK132.out 0
   have hfz15_1:=blk_frozen BK132.out 1
   try go_wp2
   all_goals first
    | (exfalso;rename_i hx;exact c3b9 hx)
    | (go_ret;exact ⟨by first|rfl|(simp [errW_none,errW_some]<;>rfl)|(simp [*,errW_none,errW_some]<;>rfl),by repeat (first|(with_reducible first|exact HB.out|apply below_alloc|apply pw_below_drewN|apply below_drew1|refine below_set ?_ GE132.out)|exact HB.out)⟩)
end Go.Proofs.YtaknchlegjcdhaaGreatDoor.Pr
namespace Go.Proofs.YtaknchlegjcdhaaGreatDoor.Pr
open Go.RowKit Go.Proofs.YtaknchlegjcdhaaGreatDoorW.PrintWords Go.Proofs.YtaknchlegjcdhaaGreatDoorW.PrintLast Go.Proofs.YtaknchlegjcdhaaGreatDoorW.PrintMore
attribute [local go_sem] max2_int min2_int max_two min_two max_three min_three max_four min_four
set_option linter.unusedVariables false
set_option linter.unusedSimpArgs false
def integer_Sign.f (k:Nat) (a0:ByteArray):Option (Int × Int):=(integer_one.f k a0).bind fun bt135=>((integer_number_sign.f bt135.1 bt135.2.1).bind fun t139=>(some (t139,bt135.2.2)))
theorem integer_Sign.mono:∀ a0 k,LeO (integer_Sign.f k a0) (integer_Sign.f (k + 1) a0):=by
 intro a0 k
 unfold integer_Sign.f
 repeat' first
   | (with_reducible exact integer_one.mono _ _)
   | (with_reducible exact LeO.refl _)
   | (with_reducible exact LeO.none _)
   | (with_reducible refine LeO.ite ?_ ?_)
   | (with_reducible refine LeO.bind ?_ (fun _=>?_))
   | exact integer_one.mono _ _
   | exact LeO.none _
   | refine LeO.ite ?_ ?_
   | refine LeO.bind ?_ (fun _=>?_)
set_option maxHeartbeats 8000000 in
set_option maxRecDepth 100000 in
theorem integer_Sign.calls (k:Nat) (a0:ByteArray) (r1:Int) (r2:Int) (w:World) (h:integer_Sign.f k a0 = some (r1,r2)) :
  Calls Tryz.prog 12 #[.string a0] w fun e w'=>e = .returned (.tuple #[.int .i64 r1,.int .i64 r2])∧Below w.heap.size w w':=by
 have hu43:=Tryz.underlying43
 have HB:=Aside0.mk (Below.refl w.heap.size w)
 have H:((integer_one.f k a0).bind fun bt135=>((integer_number_sign.f bt135.1 bt135.2.1).bind fun t139=>(some (t139,bt135.2.2)))) = some (r1,r2):=h
 clear h
 replace H:=Option.bind_eq_some_iff.mp H
 obtain ⟨⟨t135,t136,t137⟩,A20,H⟩:=H
 replace H:((integer_number_sign.f t135 t136).bind fun t139=>(some (t139,t137))) = some (r1,r2):=H
 have A2:=Aside0.mk A20
 clear A20
 replace H:=Option.bind_eq_some_iff.mp H
 obtain ⟨t139,A30,H⟩:=H
 replace H:(some (t139,t137)) = some (r1,r2):=H
 have A3:=Aside0.mk A30
 clear A30
 simp only [Option.some.injEq,Prod.mk.injEq] at H
 obtain ⟨rfl,rfl⟩:=H
 go_enter Tryz.func12,Tryz.ntmps12
 go_wp2_with (first|((with_reducible refine gate_callee (f:=39) rfl ?_);refine goesL_ (some 8) rfl rfl Tryz.func39 (by kernel_rfl) rfl #[.string a0] rfl (by (try simp only [List.map_toArray,List.map_cons,List.map_nil]);first|done|rfl|(simp only [List.length_drop,List.length_take];rfl)) ?_;(with_reducible refine (integer_one.calls k a0 t135 t136 t137 _ A2.out).mono ?_);rintro e w4 ⟨rfl,hb⟩;refine ⟨_,rfl,?_⟩;have n0_:=Aside0.mk (below_step (by repeat (first|(with_reducible first|exact HB.out|apply below_alloc|apply pw_below_drewN|apply below_drew1)|exact HB.out)) hb);clear HB;have HB:=n0_;clear n0_;(try clear hb);(try clear hb2);(try clear hk);(try clear hi))|((with_reducible refine gate_dst (N:=4) rfl ?_);refine box_event ?hg (N:=4) ?hd (cs:=#[.bool false,.string (⟨#[]⟩:ByteArray)]) (t:=43) ?hr ?_;(case hd=>rfl);(case hg=>rfl);(case hr=>first|(go_simp;done)|(go_simp;rfl));intro gb138 hg w5 hbox hb;have n0_:=Aside0.mk (below_step (by repeat (first|(with_reducible first|exact HB.out|apply below_alloc|apply pw_below_drewN|apply below_drew1)|exact HB.out)) hb);have n1_:=Aside0.mk (hbox);have n2_:=Aside0.mk ((by rw [hg];exact (below_size (by repeat (first|(with_reducible first|exact HB.out|apply below_alloc|apply pw_below_drewN|apply below_drew1)|exact HB.out))):w.heap.size≤gb138));have n3_:=Aside0.mk ((by rw [hg];exact (below_size (by repeat (first|(with_reducible first|exact HB.out|apply below_alloc|apply pw_below_drewN|apply below_drew1)|exact HB.out))):w.heap.size≤gb138));clear HB;have HB:=n0_;have BK138:=n1_;have GW138:=n2_;have GE138:=n3_;clear n0_ n1_ n2_ n3_;clear hb hbox hg;have hcz6_0:w5.cell? ⟨gb138,0,none⟩ = some (.bool false):=(blk_cell BK138.out 0).trans rfl;have hcz6_1:w5.cell? ⟨gb138,1,none⟩ = some (.string (⟨#[]⟩:ByteArray)):=(blk_cell BK138.out 1).trans rfl;have hfz6_0:=blk_frozen BK138.out 0;have hfz6_1:=blk_frozen BK138.out 1)|((with_reducible refine gate_callee (f:=40) rfl ?_);refine goesL_ (some 12) rfl rfl Tryz.func40 (by kernel_rfl) rfl #[.agg #[.bool t135,.string t136]] rfl (by (try simp only [List.map_toArray,List.map_cons,List.map_nil]);first|done|rfl|(simp only [List.length_drop,List.length_take];rfl)) ?_;(with_reducible refine (integer_number_sign.calls t135 t136 t139 _ A3.out).mono ?_);rintro e w7 ⟨rfl,hb⟩;refine ⟨_,rfl,?_⟩;have n0_:=Aside0.mk (blk_below (g:=gb138) (o:=.cells #[.bool t135,.string t136] 43 (0,0)) (by (with_reducible repeat (first|refine blk_drewN ?_ _|refine blk_drew ?_|refine blk_alloc ?_ _));refine blk_put (cs:=#[.bool t135,.string (⟨#[]⟩:ByteArray)]) ?_ 1 _ rfl;(with_reducible repeat (first|refine blk_drewN ?_ _|refine blk_drew ?_|refine blk_alloc ?_ _));refine blk_put (cs:=#[.bool false,.string (⟨#[]⟩:ByteArray)]) ?_ 0 _ rfl;(with_reducible repeat (first|refine blk_drewN ?_ _|refine blk_drew ?_|refine blk_alloc ?_ _));exact BK138.out) hb);have n1_:=Aside0.mk (below_step (by repeat (first|(with_reducible first|exact HB.out|apply below_alloc|apply pw_below_drewN|apply below_drew1|refine below_set ?_ GE138.out)|exact HB.out)) hb);clear BK138;clear HB;have BK138:=n0_;have HB:=n1_;clear n0_ n1_;(try clear hb);(try clear hb2);(try clear hk);(try clear hi)))
 go_ret2
 exact ⟨by first|rfl|(simp [errW_none,errW_some]<;>rfl)|(simp [*,errW_none,errW_some]<;>rfl),by repeat (first|(with_reducible first|exact HB.out|apply below_alloc|apply pw_below_drewN|apply below_drew1|refine below_set ?_ GE138.out)|exact HB.out)⟩
end Go.Proofs.YtaknchlegjcdhaaGreatDoor.Pr
namespace Go.Proofs.YtaknchlegjcdhaaGreatDoor.Pr
open Go.RowKit Go.Proofs.YtaknchlegjcdhaaGreatDoorW.PrintWords Go.Proofs.YtaknchlegjcdhaaGreatDoorW.PrintLast Go.Proofs.YtaknchlegjcdhaaGreatDoorW.PrintMore
attribute [local go_sem] max2_int min2_int max_two min_two max_three min_three max_four min_four
set_option linter.unusedVariables false
set_option linter.unusedSimpArgs false
def integer_Abs.f (k:Nat) (a0:ByteArray):Option (ByteArray × Int):=(integer_one.f k a0).bind fun bt140=>(if bt140.2.2 = 0 then (some (bt140.2.1,0)) else (some ((⟨#[]⟩:ByteArray),bt140.2.2)))
theorem integer_Abs.mono:∀ a0 k,LeO (integer_Abs.f k a0) (integer_Abs.f (k + 1) a0):=by
 intro a0 k
 unfold integer_Abs.f
 repeat' first
   | (with_reducible exact integer_one.mono _ _)
   | (with_reducible exact LeO.refl _)
   | (with_reducible exact LeO.none _)
   | (with_reducible refine LeO.ite ?_ ?_)
   | (with_reducible refine LeO.bind ?_ (fun _=>?_))
   | exact integer_one.mono _ _
   | exact LeO.none _
   | refine LeO.ite ?_ ?_
   | refine LeO.bind ?_ (fun _=>?_)
set_option maxHeartbeats 8000000 in
set_option maxRecDepth 100000 in
theorem integer_Abs.calls (k:Nat) (a0:ByteArray) (r1:ByteArray) (r2:Int) (w:World) (h:integer_Abs.f k a0 = some (r1,r2)) :
  Calls Tryz.prog 14 #[.string a0] w fun e w'=>e = .returned (.tuple #[.string r1,.int .i64 r2])∧Below w.heap.size w w':=by
 have hu43:=Tryz.underlying43
 have HB:=Aside0.mk (Below.refl w.heap.size w)
 have H:((integer_one.f k a0).bind fun bt140=>(if bt140.2.2 = 0 then (some (bt140.2.1,0)) else (some ((⟨#[]⟩:ByteArray),bt140.2.2)))) = some (r1,r2):=h
 clear h
 replace H:=Option.bind_eq_some_iff.mp H
 obtain ⟨⟨t140,t141,t142⟩,A20,H⟩:=H
 replace H:(if t142 = 0 then (some (t141,0)) else (some ((⟨#[]⟩:ByteArray),t142))) = some (r1,r2):=H
 have A2:=Aside0.mk A20
 clear A20
 by_cases c3:t142 = 0
 ·rw [if_pos c3] at H
  have c3b0:(t142 == 0) = true:=beq_iff_eq.mpr c3
  have c3b1:(t142 != 0) = false:=bne_eq_false_iff_eq.mpr c3
  clear c3
  simp only [Option.some.injEq,Prod.mk.injEq] at H
  obtain ⟨rfl,rfl⟩:=H
  go_enter Tryz.func14,Tryz.ntmps14
  go_wp2_with (first|((with_reducible refine gate_callee (f:=39) rfl ?_);refine goesL_ (some 8) rfl rfl Tryz.func39 (by kernel_rfl) rfl #[.string a0] rfl (by (try simp only [List.map_toArray,List.map_cons,List.map_nil]);first|done|rfl|(simp only [List.length_drop,List.length_take];rfl)) ?_;(with_reducible refine (integer_one.calls k a0 t140 t141 t142 _ A2.out).mono ?_);rintro e w4 ⟨rfl,hb⟩;refine ⟨_,rfl,?_⟩;have n0_:=Aside0.mk (below_step (by repeat (first|(with_reducible first|exact HB.out|apply below_alloc|apply pw_below_drewN|apply below_drew1)|exact HB.out)) hb);clear HB;have HB:=n0_;clear n0_;(try clear hb);(try clear hb2);(try clear hk);(try clear hi))|((with_reducible refine gate_dst (N:=4) rfl ?_);refine box_event ?hg (N:=4) ?hd (cs:=#[.bool false,.string (⟨#[]⟩:ByteArray)]) (t:=43) ?hr ?_;(case hd=>rfl);(case hg=>rfl);(case hr=>first|(go_simp;done)|(go_simp;rfl));intro gb143 hg w5 hbox hb;have n0_:=Aside0.mk (below_step (by repeat (first|(with_reducible first|exact HB.out|apply below_alloc|apply pw_below_drewN|apply below_drew1)|exact HB.out)) hb);have n1_:=Aside0.mk (hbox);have n2_:=Aside0.mk ((by rw [hg];exact (below_size (by repeat (first|(with_reducible first|exact HB.out|apply below_alloc|apply pw_below_drewN|apply below_drew1)|exact HB.out))):w.heap.size≤gb143));have n3_:=Aside0.mk ((by rw [hg];exact (below_size (by repeat (first|(with_reducible first|exact HB.out|apply below_alloc|apply pw_below_drewN|apply below_drew1)|exact HB.out))):w.heap.size≤gb143));clear HB;have HB:=n0_;have BK143:=n1_;have GW143:=n2_;have GE143:=n3_;clear n0_ n1_ n2_ n3_;clear hb hbox hg;have hcz6_0:w5.cell? ⟨gb143,0,none⟩ = some (.bool false):=(blk_cell BK143.out 0).trans rfl;have hcz6_1:w5.cell? ⟨gb143,1,none⟩ = some (.string (⟨#[]⟩:ByteArray)):=(blk_cell BK143.out 1).trans rfl;have hfz6_0:=blk_frozen BK143.out 0;have hfz6_1:=blk_frozen BK143.out 1))
  go_ret2
  exact ⟨by first|rfl|(simp [errW_none,errW_some]<;>rfl)|(simp [*,errW_none,errW_some]<;>rfl),by repeat (first|(with_reducible first|exact HB.out|apply below_alloc|apply pw_below_drewN|apply below_drew1|refine below_set ?_ GE143.out)|exact HB.out)⟩
 ·rw [if_neg c3] at H
  have c3b0:(t142 == 0) = false:=beq_eq_false_iff_ne.mpr c3
  have c3b1:(t142 != 0) = true:=bne_iff_ne.mpr c3
  simp only [Option.some.injEq,Prod.mk.injEq] at H
  obtain ⟨rfl,rfl⟩:=H
  go_enter Tryz.func14,Tryz.ntmps14
  go_wp2_with (first|((with_reducible refine gate_callee (f:=39) rfl ?_);refine goesL_ (some 8) rfl rfl Tryz.func39 (by kernel_rfl) rfl #[.string a0] rfl (by (try simp only [List.map_toArray,List.map_cons,List.map_nil]);first|done|rfl|(simp only [List.length_drop,List.length_take];rfl)) ?_;(with_reducible refine (integer_one.calls k a0 t140 t141 t142 _ A2.out).mono ?_);rintro e w7 ⟨rfl,hb⟩;refine ⟨_,rfl,?_⟩;have n0_:=Aside0.mk (below_step (by repeat (first|(with_reducible first|exact HB.out|apply below_alloc|apply pw_below_drewN|apply below_drew1)|exact HB.out)) hb);clear HB;have HB:=n0_;clear n0_;(try clear hb);(try clear hb2);(try clear hk);(try clear hi))|((with_reducible refine gate_dst (N:=4) rfl ?_);refine box_event ?hg (N:=4) ?hd (cs:=#[.bool false,.string (⟨#[]⟩:ByteArray)]) (t:=43) ?hr ?_;(case hd=>rfl);(case hg=>rfl);(case hr=>first|(go_simp;done)|(go_simp;rfl));intro gb143 hg w8 hbox hb;have n0_:=Aside0.mk (below_step (by repeat (first|(with_reducible first|exact HB.out|apply below_alloc|apply pw_below_drewN|apply below_drew1)|exact HB.out)) hb);have n1_:=Aside0.mk (hbox);have n2_:=Aside0.mk ((by rw [hg];exact (below_size (by repeat (first|(with_reducible first|exact HB.out|apply below_alloc|apply pw_below_drewN|apply below_drew1)|exact HB.out))):w.heap.size≤gb143));have n3_:=Aside0.mk ((by rw [hg];exact (below_size (by repeat (first|(with_reducible first|exact HB.out|apply below_alloc|apply pw_below_drewN|apply below_drew1)|exact HB.out))):w.heap.size≤gb143));clear HB;have HB:=n0_;have BK143:=n1_;have GW143:=n2_;have GE143:=n3_;clear n0_ n1_ n2_ n3_;clear hb hbox hg;have hcz9_0:w8.cell? ⟨gb143,0,none⟩ = some (.bool false):=(blk_cell BK143.out 0).trans rfl;have hcz9_1:w8.cell? ⟨gb143,1,none⟩ = some (.string (⟨#[]⟩:ByteArray)):=(blk_cell BK143.out 1).trans rfl;have hfz9_0:=blk_frozen BK143.out 0;have hfz9_1:=blk_frozen BK143.out 1))
  go_ret2
  exact ⟨by first|rfl|(simp [errW_none,errW_some]<;>rfl)|(simp [*,errW_none,errW_some]<;>rfl),by repeat (first|(with_reducible first|exact HB.out|apply below_alloc|apply pw_below_drewN|apply below_drew1|refine below_set ?_ GE143.out)|exact HB.out)⟩
end Go.Proofs.YtaknchlegjcdhaaGreatDoor.Pr
namespace Go.Proofs.YtaknchlegjcdhaaGreatDoor.Pr
open Go.RowKit Go.Proofs.YtaknchlegjcdhaaGreatDoorW.PrintWords Go.Proofs.YtaknchlegjcdhaaGreatDoorW.PrintLast Go.Proofs.YtaknchlegjcdhaaGreatDoorW.PrintMore
attribute [local go_sem] max2_int min2_int max_two min_two max_three min_three max_four min_four
set_option linter.unusedVariables false
set_option linter.unusedSimpArgs false
def integer_number_opposite.f (a0_0:Bool) (a0_1:ByteArray):Option (Bool × ByteArray):=(integer_with.f (!a0_0) a0_1).bind fun bt147=>(some (bt147.1,bt147.2))
set_option maxHeartbeats 8000000 in
set_option maxRecDepth 100000 in
theorem integer_number_opposite.calls (a0_0:Bool) (a0_1:ByteArray) (r1:Bool) (r2:ByteArray) (w:World) (h:integer_number_opposite.f a0_0 a0_1 = some (r1,r2)) :
  Calls Tryz.prog 45 #[.agg #[.bool a0_0,.string a0_1]] w fun e w'=>e = .returned (.agg #[.bool r1,.string r2])∧Below w.heap.size w w':=by
 have hu43:=Tryz.underlying43
 have HB:=Aside0.mk (Below.refl w.heap.size w)
 have H:((integer_with.f (!a0_0) a0_1).bind fun bt147=>(some (bt147.1,bt147.2))) = some (r1,r2):=h
 clear h
 replace H:=Option.bind_eq_some_iff.mp H
 obtain ⟨⟨t147,t148⟩,A20,H⟩:=H
 replace H:(some (t147,t148)) = some (r1,r2):=H
 have A2:=Aside0.mk A20
 clear A20
 simp only [Option.some.injEq,Prod.mk.injEq] at H
 obtain ⟨rfl,rfl⟩:=H
 go_enter Tryz.func45,Tryz.ntmps45
 go_wp2_with (first|((with_reducible refine gate_dst (N:=1) rfl ?_);refine box_event ?hg (N:=1) ?hd (cs:=#[.bool a0_0,.string a0_1]) (t:=43) ?hr ?_;(case hd=>rfl);(case hg=>rfl);(case hr=>first|(go_simp;done)|(go_simp;rfl));intro gb145 hg w3 hbox hb;have n0_:=Aside0.mk (below_step (by repeat (first|(with_reducible first|exact HB.out|apply below_alloc|apply pw_below_drewN|apply below_drew1)|exact HB.out)) hb);have n1_:=Aside0.mk (hbox);have n2_:=Aside0.mk ((by rw [hg];exact (below_size (by repeat (first|(with_reducible first|exact HB.out|apply below_alloc|apply pw_below_drewN|apply below_drew1)|exact HB.out))):w.heap.size≤gb145));have n3_:=Aside0.mk ((by rw [hg];exact (below_size (by repeat (first|(with_reducible first|exact HB.out|apply below_alloc|apply pw_below_drewN|apply below_drew1)|exact HB.out))):w.heap.size≤gb145));clear HB;have HB:=n0_;have BK145:=n1_;have GW145:=n2_;have GE145:=n3_;clear n0_ n1_ n2_ n3_;clear hb hbox hg)|((with_reducible refine gate_dst (N:=2) rfl ?_);refine box_event ?hg (N:=2) ?hd (cs:=#[.bool false,.string (⟨#[]⟩:ByteArray)]) (t:=43) ?hr ?_;(case hd=>rfl);(case hg=>rfl);(case hr=>first|(go_simp;done)|(go_simp;rfl));intro gb146 hg w4 hbox hb;have n0_:=Aside0.mk (blk_below (g:=gb145) (o:=.cells #[.bool a0_0,.string a0_1] 43 (0,0)) (by (with_reducible repeat (first|refine blk_drewN ?_ _|refine blk_drew ?_|refine blk_alloc ?_ _));exact BK145.out) hb);have n1_:=Aside0.mk (below_step (by repeat (first|(with_reducible first|exact HB.out|apply below_alloc|apply pw_below_drewN|apply below_drew1|refine below_set ?_ GE145.out)|exact HB.out)) hb);have n2_:=Aside0.mk (hbox);have n3_:=Aside0.mk ((by rw [hg];exact (below_size (by repeat (first|(with_reducible first|exact HB.out|apply below_alloc|apply pw_below_drewN|apply below_drew1|refine below_set ?_ GE145.out)|exact HB.out))):w.heap.size≤gb146));have n4_:=Aside0.mk ((by rw [hg];exact (below_size (by repeat (first|(with_reducible first|exact HB.out|apply below_alloc|apply pw_below_drewN|apply below_drew1|refine below_set ?_ GE145.out)|exact HB.out))):w.heap.size≤gb146));have n5_:=Aside0.mk ((by rw [hg];exact Nat.ne_of_lt (blk_lt (g:=gb145) (o:=.cells #[.bool a0_0,.string a0_1] 43 (0,0)) (by (with_reducible repeat (first|refine blk_drewN ?_ _|refine blk_drew ?_|refine blk_alloc ?_ _));exact BK145.out)):gb145≠gb146));have n6_:=Aside0.mk ((by rw [hg];exact Nat.ne_of_gt (blk_lt (g:=gb145) (o:=.cells #[.bool a0_0,.string a0_1] 43 (0,0)) (by (with_reducible repeat (first|refine blk_drewN ?_ _|refine blk_drew ?_|refine blk_alloc ?_ _));exact BK145.out)):gb146≠gb145));clear BK145;clear HB;have BK145:=n0_;have HB:=n1_;have BK146:=n2_;have GW146:=n3_;have GE146:=n4_;have NB145_146:=n5_;have NB146_145:=n6_;clear n0_ n1_ n2_ n3_ n4_ n5_ n6_;clear hb hbox hg;have hnb5:=NB145_146.out;have hnc5:=NB146_145.out;have hcz6_0:w4.cell? ⟨gb145,0,none⟩ = some (.bool a0_0):=(blk_cell BK145.out 0).trans rfl;have hcz6_1:w4.cell? ⟨gb145,1,none⟩ = some (.string a0_1):=(blk_cell BK145.out 1).trans rfl;have hfz6_0:=blk_frozen BK145.out 0;have hfz6_1:=blk_frozen BK145.out 1)|((with_reducible refine gate_callee (f:=62) rfl ?_);refine goesL_ (some 8) rfl rfl Tryz.func62 (by kernel_rfl) rfl #[.bool (!a0_0),.string a0_1] rfl (by (try simp only [List.map_toArray,List.map_cons,List.map_nil]);first|done|rfl|(simp only [List.length_drop,List.length_take];rfl)) ?_;(with_reducible refine (integer_with.calls (!a0_0) a0_1 t147 t148 _ A2.out).mono ?_);rintro e w7 ⟨rfl,hb⟩;refine ⟨_,rfl,?_⟩;have n0_:=Aside0.mk (blk_below (g:=gb145) (o:=.cells #[.bool a0_0,.string a0_1] 43 (0,0)) (by (with_reducible repeat (first|refine blk_drewN ?_ _|refine blk_drew ?_|refine blk_alloc ?_ _));exact BK145.out) hb);have n1_:=Aside0.mk (blk_below (g:=gb146) (o:=.cells #[.bool false,.string (⟨#[]⟩:ByteArray)] 43 (0,0)) (by (with_reducible repeat (first|refine blk_drewN ?_ _|refine blk_drew ?_|refine blk_alloc ?_ _));exact BK146.out) hb);have n2_:=Aside0.mk (below_step (by repeat (first|(with_reducible first|exact HB.out|apply below_alloc|apply pw_below_drewN|apply below_drew1|refine below_set ?_ GE145.out|refine below_set ?_ GE146.out)|exact HB.out)) hb);clear BK145;clear BK146;clear HB;have BK145:=n0_;have BK146:=n1_;have HB:=n2_;clear n0_ n1_ n2_;(try clear hb);(try clear hb2);(try clear hk);(try clear hi);have hcz8_0:w7.cell? ⟨gb146,0,none⟩ = some (.bool false):=(blk_cell BK146.out 0).trans rfl;have hcz8_1:w7.cell? ⟨gb146,1,none⟩ = some (.string (⟨#[]⟩:ByteArray)):=(blk_cell BK146.out 1).trans rfl;have hfz8_0:=blk_frozen BK146.out 0;have hfz8_1:=blk_frozen BK146.out 1))
 refine bodyPost_ret (results_cell_row rfl _ _ gb146 43 #[.bool t147,.string t148] (0,0) _ rfl (by (with_reducible repeat (first|refine blk_drewN ?_ _|refine blk_drew ?_|refine blk_alloc ?_ _));refine blk_put (cs:=#[.bool t147,.string (⟨#[]⟩:ByteArray)]) ?_ 1 _ rfl;(with_reducible repeat (first|refine blk_drewN ?_ _|refine blk_drew ?_|refine blk_alloc ?_ _));refine blk_put (cs:=#[.bool false,.string (⟨#[]⟩:ByteArray)]) ?_ 0 _ rfl;(with_reducible repeat (first|refine blk_drewN ?_ _|refine blk_drew ?_|refine blk_alloc ?_ _));exact BK146.out) Tryz.underlying43 rfl (by kernel_rfl)) rfl ?_
 exact ⟨by first|rfl|(simp [errW_none,errW_some]<;>rfl)|(simp [*,errW_none,errW_some]<;>rfl),by repeat (first|(with_reducible first|exact HB.out|apply below_alloc|apply pw_below_drewN|apply below_drew1|refine below_set ?_ GE145.out|refine below_set ?_ GE146.out)|exact HB.out)⟩
end Go.Proofs.YtaknchlegjcdhaaGreatDoor.Pr
namespace Go.Proofs.YtaknchlegjcdhaaGreatDoor.Pr
open Go.RowKit Go.Proofs.YtaknchlegjcdhaaGreatDoorW.PrintWords Go.Proofs.YtaknchlegjcdhaaGreatDoorW.PrintLast Go.Proofs.YtaknchlegjcdhaaGreatDoorW.PrintMore
attribute [local go_sem] max2_int min2_int max_two min_two max_three min_three max_four min_four
set_option linter.unusedVariables false
set_option linter.unusedSimpArgs false
def integer_number_text.f (a0_0:Bool) (a0_1:ByteArray):Option (ByteArray):=if a0_0 = true then (if 1 + a0_1.size≤9223372036854775807 then (some ((⟨#[45]⟩:ByteArray) ++ a0_1)) else (none)) else (some a0_1)
set_option maxHeartbeats 8000000 in
set_option maxRecDepth 100000 in
theorem integer_number_text.calls (a0_0:Bool) (a0_1:ByteArray) (r:ByteArray) (w:World) (h:integer_number_text.f a0_0 a0_1 = some r) :
  Calls Tryz.prog 46 #[.agg #[.bool a0_0,.string a0_1]] w fun e w'=>e = .returned (.string r)∧Below w.heap.size w w':=by
 have hu43:=Tryz.underlying43
 have HB:=Aside0.mk (Below.refl w.heap.size w)
 have H:(if a0_0 = true then (if 1 + a0_1.size≤9223372036854775807 then (some ((⟨#[45]⟩:ByteArray) ++ a0_1)) else (none)) else (some a0_1)) = some r:=h
 clear h
 by_cases c2:a0_0 = true
 ·subst c2
  have H1:(if 1 + a0_1.size≤9223372036854775807 then (some ((⟨#[45]⟩:ByteArray) ++ a0_1)) else (none)) = some r:=by rw [if_pos rfl] at H;exact H
  clear H
  have H:=H1
  clear H1
  by_cases c3:1 + a0_1.size≤9223372036854775807
  ·rw [if_pos c3] at H
   have c3b0:=eq_true c3
   have c3b1:decide (1 + a0_1.size≤9223372036854775807) = true:=decide_eq_true c3
   try have c3b2:(9223372036854775807 < 1 + a0_1.size) = False:=eq_false (Nat.not_lt.2 c3)
   obtain rfl:=Option.some.inj H
   go_enter Tryz.func46,Tryz.ntmps46
   go_wp2_with (first|((with_reducible refine gate_dst (N:=1) rfl ?_);refine box_event ?hg (N:=1) ?hd (cs:=#[.bool true,.string a0_1]) (t:=43) ?hr ?_;(case hd=>rfl);(case hg=>rfl);(case hr=>first|(go_simp;done)|(go_simp;rfl));intro gb149 hg w4 hbox hb;have n0_:=Aside0.mk (below_step (by repeat (first|(with_reducible first|exact HB.out|apply below_alloc|apply pw_below_drewN|apply below_drew1)|exact HB.out)) hb);have n1_:=Aside0.mk (hbox);have n2_:=Aside0.mk ((by rw [hg];exact (below_size (by repeat (first|(with_reducible first|exact HB.out|apply below_alloc|apply pw_below_drewN|apply below_drew1)|exact HB.out))):w.heap.size≤gb149));have n3_:=Aside0.mk ((by rw [hg];exact (below_size (by repeat (first|(with_reducible first|exact HB.out|apply below_alloc|apply pw_below_drewN|apply below_drew1)|exact HB.out))):w.heap.size≤gb149));clear HB;have HB:=n0_;have BK149:=n1_;have GW149:=n2_;have GE149:=n3_;clear n0_ n1_ n2_ n3_;clear hb hbox hg;have hcz5_0:w4.cell? ⟨gb149,0,none⟩ = some (.bool true):=(blk_cell BK149.out 0).trans rfl;have hcz5_1:w4.cell? ⟨gb149,1,none⟩ = some (.string a0_1):=(blk_cell BK149.out 1).trans rfl;have hfz5_0:=blk_frozen BK149.out 0;have hfz5_1:=blk_frozen BK149.out 1))
   go_ret
   exact ⟨by first|rfl|(simp [errW_none,errW_some]<;>rfl)|(simp [*,errW_none,errW_some]<;>rfl),by repeat (first|(with_reducible first|exact HB.out|apply below_alloc|apply pw_below_drewN|apply below_drew1|refine below_set ?_ GE149.out)|exact HB.out)⟩
  ·rw [if_neg c3] at H
   exact absurd H (by simp)
 ·replace c2:=Bool.eq_false_iff.mpr c2
  subst c2
  have H1:(some a0_1) = some r:=by rw [if_neg (show ¬ (false = true) by decide)] at H;exact H
  clear H
  have H:=H1
  clear H1
  obtain rfl:=Option.some.inj H
  go_enter Tryz.func46,Tryz.ntmps46
  go_wp2_with (first|((with_reducible refine gate_dst (N:=1) rfl ?_);refine box_event ?hg (N:=1) ?hd (cs:=#[.bool false,.string a0_1]) (t:=43) ?hr ?_;(case hd=>rfl);(case hg=>rfl);(case hr=>first|(go_simp;done)|(go_simp;rfl));intro gb149 hg w6 hbox hb;have n0_:=Aside0.mk (below_step (by repeat (first|(with_reducible first|exact HB.out|apply below_alloc|apply pw_below_drewN|apply below_drew1)|exact HB.out)) hb);have n1_:=Aside0.mk (hbox);have n2_:=Aside0.mk ((by rw [hg];exact (below_size (by repeat (first|(with_reducible first|exact HB.out|apply below_alloc|apply pw_below_drewN|apply below_drew1)|exact HB.out))):w.heap.size≤gb149));have n3_:=Aside0.mk ((by rw [hg];exact (below_size (by repeat (first|(with_reducible first|exact HB.out|apply below_alloc|apply pw_below_drewN|apply below_drew1)|exact HB.out))):w.heap.size≤gb149));clear HB;have HB:=n0_;have BK149:=n1_;have GW149:=n2_;have GE149:=n3_;clear n0_ n1_ n2_ n3_;clear hb hbox hg;have hcz7_0:w6.cell? ⟨gb149,0,none⟩ = some (.bool false):=(blk_cell BK149.out 0).trans rfl;have hcz7_1:w6.cell? ⟨gb149,1,none⟩ = some (.string a0_1):=(blk_cell BK149.out 1).trans rfl;have hfz7_0:=blk_frozen BK149.out 0;have hfz7_1:=blk_frozen BK149.out 1))
  go_ret
  exact ⟨by first|rfl|(simp [errW_none,errW_some]<;>rfl)|(simp [*,errW_none,errW_some]<;>rfl),by repeat (first|(with_reducible first|exact HB.out|apply below_alloc|apply pw_below_drewN|apply below_drew1|refine below_set ?_ GE149.out)|exact HB.out)⟩
end Go.Proofs.YtaknchlegjcdhaaGreatDoor.Pr
namespace Go.Proofs.YtaknchlegjcdhaaGreatDoor.Pr
open Go.RowKit Go.Proofs.YtaknchlegjcdhaaGreatDoorW.PrintWords Go.Proofs.YtaknchlegjcdhaaGreatDoorW.PrintLast Go.Proofs.YtaknchlegjcdhaaGreatDoorW.PrintMore
attribute [local go_sem] max2_int min2_int max_two min_two max_three min_three max_four min_four
set_option linter.unusedVariables false
set_option linter.unusedSimpArgs false
def integer_Neg.f (k:Nat) (a0:ByteArray):Option (ByteArray × Int):=(integer_one.f k a0).bind fun bt150=>(if bt150.2.2 = 0 then ((integer_number_opposite.f bt150.1 bt150.2.1).bind fun bt154=>((integer_number_text.f bt154.1 bt154.2).bind fun t156=>(some (t156,0)))) else (some ((⟨#[]⟩:ByteArray),bt150.2.2)))
theorem integer_Neg.mono:∀ a0 k,LeO (integer_Neg.f k a0) (integer_Neg.f (k + 1) a0):=by
 intro a0 k
 unfold integer_Neg.f
 repeat' first
   | (with_reducible exact integer_one.mono _ _)
   | (with_reducible exact LeO.refl _)
   | (with_reducible exact LeO.none _)
   | (with_reducible refine LeO.ite ?_ ?_)
   | (with_reducible refine LeO.bind ?_ (fun _=>?_))
   | exact integer_one.mono _ _
   | exact LeO.none _
   | refine LeO.ite ?_ ?_
   | refine LeO.bind ?_ (fun _=>?_)
set_option maxHeartbeats 8000000 in
set_option maxRecDepth 100000 in
theorem integer_Neg.calls (k:Nat) (a0:ByteArray) (r1:ByteArray) (r2:Int) (w:World) (h:integer_Neg.f k a0 = some (r1,r2)) :
  Calls Tryz.prog 16 #[.string a0] w fun e w'=>e = .returned (.tuple #[.string r1,.int .i64 r2])∧Below w.heap.size w w':=by
 have hu43:=Tryz.underlying43
 have HB:=Aside0.mk (Below.refl w.heap.size w)
 have H:((integer_one.f k a0).bind fun bt150=>(if bt150.2.2 = 0 then ((integer_number_opposite.f bt150.1 bt150.2.1).bind fun bt154=>((integer_number_text.f bt154.1 bt154.2).bind fun t156=>(some (t156,0)))) else (some ((⟨#[]⟩:ByteArray),bt150.2.2)))) = some (r1,r2):=h
 clear h
 replace H:=Option.bind_eq_some_iff.mp H
 obtain ⟨⟨t150,t151,t152⟩,A20,H⟩:=H
 replace H:(if t152 = 0 then ((integer_number_opposite.f t150 t151).bind fun bt154=>((integer_number_text.f bt154.1 bt154.2).bind fun t156=>(some (t156,0)))) else (some ((⟨#[]⟩:ByteArray),t152))) = some (r1,r2):=H
 have A2:=Aside0.mk A20
 clear A20
 by_cases c3:t152 = 0
 ·rw [if_pos c3] at H
  have c3b0:(t152 == 0) = true:=beq_iff_eq.mpr c3
  have c3b1:(t152 != 0) = false:=bne_eq_false_iff_eq.mpr c3
  clear c3
  replace H:=Option.bind_eq_some_iff.mp H
  obtain ⟨⟨t154,t155⟩,A40,H⟩:=H
  replace H:((integer_number_text.f t154 t155).bind fun t156=>(some (t156,0))) = some (r1,r2):=H
  have A4:=Aside0.mk A40
  clear A40
  replace H:=Option.bind_eq_some_iff.mp H
  obtain ⟨t156,A50,H⟩:=H
  replace H:(some (t156,0)) = some (r1,r2):=H
  have A5:=Aside0.mk A50
  clear A50
  simp only [Option.some.injEq,Prod.mk.injEq] at H
  obtain ⟨rfl,rfl⟩:=H
  go_enter Tryz.func16,Tryz.ntmps16
  go_wp2_with (first|((with_reducible refine gate_callee (f:=39) rfl ?_);refine goesL_ (some 8) rfl rfl Tryz.func39 (by kernel_rfl) rfl #[.string a0] rfl (by (try simp only [List.map_toArray,List.map_cons,List.map_nil]);first|done|rfl|(simp only [List.length_drop,List.length_take];rfl)) ?_;(with_reducible refine (integer_one.calls k a0 t150 t151 t152 _ A2.out).mono ?_);rintro e w6 ⟨rfl,hb⟩;refine ⟨_,rfl,?_⟩;have n0_:=Aside0.mk (below_step (by repeat (first|(with_reducible first|exact HB.out|apply below_alloc|apply pw_below_drewN|apply below_drew1)|exact HB.out)) hb);clear HB;have HB:=n0_;clear n0_;(try clear hb);(try clear hb2);(try clear hk);(try clear hi))|((with_reducible refine gate_dst (N:=4) rfl ?_);refine box_event ?hg (N:=4) ?hd (cs:=#[.bool false,.string (⟨#[]⟩:ByteArray)]) (t:=43) ?hr ?_;(case hd=>rfl);(case hg=>rfl);(case hr=>first|(go_simp;done)|(go_simp;rfl));intro gb153 hg w7 hbox hb;have n0_:=Aside0.mk (below_step (by repeat (first|(with_reducible first|exact HB.out|apply below_alloc|apply pw_below_drewN|apply below_drew1)|exact HB.out)) hb);have n1_:=Aside0.mk (hbox);have n2_:=Aside0.mk ((by rw [hg];exact (below_size (by repeat (first|(with_reducible first|exact HB.out|apply below_alloc|apply pw_below_drewN|apply below_drew1)|exact HB.out))):w.heap.size≤gb153));have n3_:=Aside0.mk ((by rw [hg];exact (below_size (by repeat (first|(with_reducible first|exact HB.out|apply below_alloc|apply pw_below_drewN|apply below_drew1)|exact HB.out))):w.heap.size≤gb153));clear HB;have HB:=n0_;have BK153:=n1_;have GW153:=n2_;have GE153:=n3_;clear n0_ n1_ n2_ n3_;clear hb hbox hg;have hcz8_0:w7.cell? ⟨gb153,0,none⟩ = some (.bool false):=(blk_cell BK153.out 0).trans rfl;have hcz8_1:w7.cell? ⟨gb153,1,none⟩ = some (.string (⟨#[]⟩:ByteArray)):=(blk_cell BK153.out 1).trans rfl;have hfz8_0:=blk_frozen BK153.out 0;have hfz8_1:=blk_frozen BK153.out 1)|((with_reducible refine gate_callee (f:=45) rfl ?_);refine goesL_ (some 15) rfl rfl Tryz.func45 (by kernel_rfl) rfl #[.agg #[.bool t150,.string t151]] rfl (by (try simp only [List.map_toArray,List.map_cons,List.map_nil]);first|done|rfl|(simp only [List.length_drop,List.length_take];rfl)) ?_;(with_reducible refine (integer_number_opposite.calls t150 t151 t154 t155 _ A4.out).mono ?_);rintro e w9 ⟨rfl,hb⟩;refine ⟨_,rfl,?_⟩;have n0_:=Aside0.mk (blk_below (g:=gb153) (o:=.cells #[.bool t150,.string t151] 43 (0,0)) (by (with_reducible repeat (first|refine blk_drewN ?_ _|refine blk_drew ?_|refine blk_alloc ?_ _));refine blk_put (cs:=#[.bool t150,.string (⟨#[]⟩:ByteArray)]) ?_ 1 _ rfl;(with_reducible repeat (first|refine blk_drewN ?_ _|refine blk_drew ?_|refine blk_alloc ?_ _));refine blk_put (cs:=#[.bool false,.string (⟨#[]⟩:ByteArray)]) ?_ 0 _ rfl;(with_reducible repeat (first|refine blk_drewN ?_ _|refine blk_drew ?_|refine blk_alloc ?_ _));exact BK153.out) hb);have n1_:=Aside0.mk (below_step (by repeat (first|(with_reducible first|exact HB.out|apply below_alloc|apply pw_below_drewN|apply below_drew1|refine below_set ?_ GE153.out)|exact HB.out)) hb);clear BK153;clear HB;have BK153:=n0_;have HB:=n1_;clear n0_ n1_;(try clear hb);(try clear hb2);(try clear hk);(try clear hi))|((with_reducible refine gate_callee (f:=46) rfl ?_);refine goesL_ (some 16) rfl rfl Tryz.func46 (by kernel_rfl) rfl #[.agg #[.bool t154,.string t155]] rfl (by (try simp only [List.map_toArray,List.map_cons,List.map_nil]);first|done|rfl|(simp only [List.length_drop,List.length_take];rfl)) ?_;(with_reducible refine (integer_number_text.calls t154 t155 t156 _ A5.out).mono ?_);rintro e w10 ⟨rfl,hb⟩;refine ⟨_,rfl,?_⟩;have n0_:=Aside0.mk (blk_below (g:=gb153) (o:=.cells #[.bool t150,.string t151] 43 (0,0)) (by (with_reducible repeat (first|refine blk_drewN ?_ _|refine blk_drew ?_|refine blk_alloc ?_ _));exact BK153.out) hb);have n1_:=Aside0.mk (below_step (by repeat (first|(with_reducible first|exact HB.out|apply below_alloc|apply pw_below_drewN|apply below_drew1|refine below_set ?_ GE153.out)|exact HB.out)) hb);clear BK153;clear HB;have BK153:=n0_;have HB:=n1_;clear n0_ n1_;(try clear hb);(try clear hb2);(try clear hk);(try clear hi)))
  go_ret2
  exact ⟨by first|rfl|(simp [errW_none,errW_some]<;>rfl)|(simp [*,errW_none,errW_some]<;>rfl),by repeat (first|(with_reducible first|exact HB.out|apply below_alloc|apply pw_below_drewN|apply below_drew1|refine below_set ?_ GE153.out)|exact HB.out)⟩
 ·rw [if_neg c3] at H
  have c3b0:(t152 == 0) = false:=beq_eq_false_iff_ne.mpr c3
  have c3b1:(t152 != 0) = true:=bne_iff_ne.mpr c3
  simp only [Option.some.injEq,Prod.mk.injEq] at H
  obtain ⟨rfl,rfl⟩:=H
  go_enter Tryz.func16,Tryz.ntmps16
  go_wp2_with (first|((with_reducible refine gate_callee (f:=39) rfl ?_);refine goesL_ (some 8) rfl rfl Tryz.func39 (by kernel_rfl) rfl #[.string a0] rfl (by (try simp only [List.map_toArray,List.map_cons,List.map_nil]);first|done|rfl|(simp only [List.length_drop,List.length_take];rfl)) ?_;(with_reducible refine (integer_one.calls k a0 t150 t151 t152 _ A2.out).mono ?_);rintro e w11 ⟨rfl,hb⟩;refine ⟨_,rfl,?_⟩;have n0_:=Aside0.mk (below_step (by repeat (first|(with_reducible first|exact HB.out|apply below_alloc|apply pw_below_drewN|apply below_drew1)|exact HB.out)) hb);clear HB;have HB:=n0_;clear n0_;(try clear hb);(try clear hb2);(try clear hk);(try clear hi))|((with_reducible refine gate_dst (N:=4) rfl ?_);refine box_event ?hg (N:=4) ?hd (cs:=#[.bool false,.string (⟨#[]⟩:ByteArray)]) (t:=43) ?hr ?_;(case hd=>rfl);(case hg=>rfl);(case hr=>first|(go_simp;done)|(go_simp;rfl));intro gb153 hg w12 hbox hb;have n0_:=Aside0.mk (below_step (by repeat (first|(with_reducible first|exact HB.out|apply below_alloc|apply pw_below_drewN|apply below_drew1)|exact HB.out)) hb);have n1_:=Aside0.mk (hbox);have n2_:=Aside0.mk ((by rw [hg];exact (below_size (by repeat (first|(with_reducible first|exact HB.out|apply below_alloc|apply pw_below_drewN|apply below_drew1)|exact HB.out))):w.heap.size≤gb153));have n3_:=Aside0.mk ((by rw [hg];exact (below_size (by repeat (first|(with_reducible first|exact HB.out|apply below_alloc|apply pw_below_drewN|apply below_drew1)|exact HB.out))):w.heap.size≤gb153));clear HB;have HB:=n0_;have BK153:=n1_;have GW153:=n2_;have GE153:=n3_;clear n0_ n1_ n2_ n3_;clear hb hbox hg;have hcz13_0:w12.cell? ⟨gb153,0,none⟩ = some (.bool false):=(blk_cell BK153.out 0).trans rfl;have hcz13_1:w12.cell? ⟨gb153,1,none⟩ = some (.string (⟨#[]⟩:ByteArray)):=(blk_cell BK153.out 1).trans rfl;have hfz13_0:=blk_frozen BK153.out 0;have hfz13_1:=blk_frozen BK153.out 1))
  go_ret2
  exact ⟨by first|rfl|(simp [errW_none,errW_some]<;>rfl)|(simp [*,errW_none,errW_some]<;>rfl),by repeat (first|(with_reducible first|exact HB.out|apply below_alloc|apply pw_below_drewN|apply below_drew1|refine below_set ?_ GE153.out)|exact HB.out)⟩
end Go.Proofs.YtaknchlegjcdhaaGreatDoor.Pr
namespace Go.Proofs.YtaknchlegjcdhaaGreatDoor.Pr
open Go.RowKit Go.Proofs.YtaknchlegjcdhaaGreatDoorW.PrintWords Go.Proofs.YtaknchlegjcdhaaGreatDoorW.PrintLast Go.Proofs.YtaknchlegjcdhaaGreatDoorW.PrintMore
attribute [local go_sem] max2_int min2_int max_two min_two max_three min_three max_four min_four
set_option linter.unusedVariables false
set_option linter.unusedSimpArgs false
def integer_Valid.f (k:Nat) (a0:ByteArray):Option (Bool):=(integer_read.f k a0).bind fun bt157=>(some bt157.2.2)
theorem integer_Valid.mono:∀ a0 k,LeO (integer_Valid.f k a0) (integer_Valid.f (k + 1) a0):=by
 intro a0 k
 unfold integer_Valid.f
 repeat' first
   | (with_reducible exact integer_read.mono _ _)
   | (with_reducible exact LeO.refl _)
   | (with_reducible exact LeO.none _)
   | (with_reducible refine LeO.ite ?_ ?_)
   | (with_reducible refine LeO.bind ?_ (fun _=>?_))
   | exact integer_read.mono _ _
   | exact LeO.none _
   | refine LeO.ite ?_ ?_
   | refine LeO.bind ?_ (fun _=>?_)
set_option maxHeartbeats 8000000 in
set_option maxRecDepth 100000 in
theorem integer_Valid.calls (k:Nat) (a0:ByteArray) (r:Bool) (w:World) (h:integer_Valid.f k a0 = some r) :
  Calls Tryz.prog 18 #[.string a0] w fun e w'=>e = .returned (.bool r)∧Below w.heap.size w w':=by
 have hu43:=Tryz.underlying43
 have HB:=Aside0.mk (Below.refl w.heap.size w)
 have H:((integer_read.f k a0).bind fun bt157=>(some bt157.2.2)) = some r:=h
 clear h
 replace H:=Option.bind_eq_some_iff.mp H
 obtain ⟨⟨t157,t158,t159⟩,A20,H⟩:=H
 replace H:(some t159) = some r:=H
 have A2:=Aside0.mk A20
 clear A20
 obtain rfl:=Option.some.inj H
 go_enter Tryz.func18,Tryz.ntmps18
 go_wp2_with (first|((with_reducible refine gate_callee (f:=48) rfl ?_);refine goesL_ (some 7) rfl rfl Tryz.func48 (by kernel_rfl) rfl #[.string a0] rfl (by (try simp only [List.map_toArray,List.map_cons,List.map_nil]);first|done|rfl|(simp only [List.length_drop,List.length_take];rfl)) ?_;(with_reducible refine (integer_read.calls k a0 t157 t158 t159 _ A2.out).mono ?_);rintro e w3 ⟨rfl,hb⟩;refine ⟨_,rfl,?_⟩;have n0_:=Aside0.mk (below_step (by repeat (first|(with_reducible first|exact HB.out|apply below_alloc|apply pw_below_drewN|apply below_drew1)|exact HB.out)) hb);clear HB;have HB:=n0_;clear n0_;(try clear hb);(try clear hb2);(try clear hk);(try clear hi))|((with_reducible refine gate_dst (N:=3) rfl ?_);refine box_event ?hg (N:=3) ?hd (cs:=#[.bool false,.string (⟨#[]⟩:ByteArray)]) (t:=43) ?hr ?_;(case hd=>rfl);(case hg=>rfl);(case hr=>first|(go_simp;done)|(go_simp;rfl));intro gb160 hg w4 hbox hb;have n0_:=Aside0.mk (below_step (by repeat (first|(with_reducible first|exact HB.out|apply below_alloc|apply pw_below_drewN|apply below_drew1)|exact HB.out)) hb);have n1_:=Aside0.mk (hbox);have n2_:=Aside0.mk ((by rw [hg];exact (below_size (by repeat (first|(with_reducible first|exact HB.out|apply below_alloc|apply pw_below_drewN|apply below_drew1)|exact HB.out))):w.heap.size≤gb160));have n3_:=Aside0.mk ((by rw [hg];exact (below_size (by repeat (first|(with_reducible first|exact HB.out|apply below_alloc|apply pw_below_drewN|apply below_drew1)|exact HB.out))):w.heap.size≤gb160));clear HB;have HB:=n0_;have BK160:=n1_;have GW160:=n2_;have GE160:=n3_;clear n0_ n1_ n2_ n3_;clear hb hbox hg;have hcz5_0:w4.cell? ⟨gb160,0,none⟩ = some (.bool false):=(blk_cell BK160.out 0).trans rfl;have hcz5_1:w4.cell? ⟨gb160,1,none⟩ = some (.string (⟨#[]⟩:ByteArray)):=(blk_cell BK160.out 1).trans rfl;have hfz5_0:=blk_frozen BK160.out 0;have hfz5_1:=blk_frozen BK160.out 1))
 go_ret
 exact ⟨by first|rfl|(simp [errW_none,errW_some]<;>rfl)|(simp [*,errW_none,errW_some]<;>rfl),by repeat (first|(with_reducible first|exact HB.out|apply below_alloc|apply pw_below_drewN|apply below_drew1|refine below_set ?_ GE160.out)|exact HB.out)⟩
end Go.Proofs.YtaknchlegjcdhaaGreatDoor.Pr
set_option linter.unusedVariables false
set_option linter.unusedSimpArgs false
namespace Go.Proofs.YtaknchlegjcdhaaGreatDoor.Pr
open Go.RowKit Go.Lib Go.Shelf Go.Proofs.YtaknchlegjcdhaaGreatDoorW.PrintWords
def strconv_Itoa_21.f (n:Int):Option ByteArray:=if -9223372036854775808≤n∧n≤9223372036854775807 then some ⟨(Lib.itoa n).toArray⟩ else none
theorem strconv_Itoa_21.calls (a0:Int) (r:ByteArray) (w:World) (hL:LaidW w) (h:strconv_Itoa_21.f a0 = some r) :
  Calls Tryz.prog 21 #[.int .i64 a0] w fun e w'=>e = .returned (.string r)∧Below w.heap.size w w':=by
 unfold strconv_Itoa_21.f at h
 by_cases hc:-9223372036854775808≤a0∧a0≤9223372036854775807
 case neg=>rw [if_neg hc] at h;cases h
 rw [if_pos hc] at h
 injection h with h
 subst h
 refine (Tryz.strconv_Itoa a0 hc.1 hc.2 w hL).mono ?_
 rintro e w' ⟨he,k,os,rfl⟩
 exact ⟨he,below_grow _ _ (Nat.le_refl _) k os⟩
end Go.Proofs.YtaknchlegjcdhaaGreatDoor.Pr
namespace Go.Proofs.YtaknchlegjcdhaaGreatDoor.Pr
open Go.RowKit Go.Proofs.YtaknchlegjcdhaaGreatDoorW.PrintWords Go.Proofs.YtaknchlegjcdhaaGreatDoorW.PrintLast Go.Proofs.YtaknchlegjcdhaaGreatDoorW.PrintMore
attribute [local go_sem] max2_int min2_int max_two min_two max_three min_three max_four min_four
set_option linter.unusedVariables false
set_option linter.unusedSimpArgs false
def integer_From.f (a0:Int):Option (ByteArray):=(strconv_Itoa_21.f a0).bind fun t180=>(some t180)
set_option maxHeartbeats 8000000 in
set_option maxRecDepth 100000 in
theorem integer_From.calls (a0:Int) (r:ByteArray) (w:World) (hL:LaidW w) (h:integer_From.f a0 = some r) :
  Calls Tryz.prog 20 #[.int .i64 a0] w fun e w'=>e = .returned (.string r)∧Below w.heap.size w w':=by
 have HB:=Aside0.mk (Below.refl w.heap.size w)
 have HLW:=Aside0.mk hL
 clear hL
 have H:((strconv_Itoa_21.f a0).bind fun t180=>(some t180)) = some r:=h
 clear h
 replace H:=Option.bind_eq_some_iff.mp H
 obtain ⟨t180,A20,H⟩:=H
 replace H:(some t180) = some r:=H
 have A2:=Aside0.mk A20
 clear A20
 obtain rfl:=Option.some.inj H
 go_enter Tryz.func20,Tryz.ntmps20
 go_wp2_with (first|((with_reducible refine gate_callee (f:=21) rfl ?_);refine goesL_ (some 4) rfl rfl Tryz.func21 (by kernel_rfl) rfl #[.int .i64 a0] rfl (by (try simp only [List.map_toArray,List.map_cons,List.map_nil]);first|done|rfl|(simp only [List.length_drop,List.length_take];rfl)) ?_;(with_reducible refine (strconv_Itoa_21.calls a0 t180 _ ?side1 A2.out).mono ?_);(case side1=>exact HLW.out.below (by repeat (first|(with_reducible first|exact HB.out|apply below_alloc|apply pw_below_drewN|apply below_drew1)|exact HB.out)));rintro e w3 ⟨rfl,hb⟩;refine ⟨_,rfl,?_⟩;have n0_:=Aside0.mk (below_step (by repeat (first|(with_reducible first|exact HB.out|apply below_alloc|apply pw_below_drewN|apply below_drew1)|exact HB.out)) hb);clear HB;have HB:=n0_;clear n0_;(try clear hb);(try clear hb2);(try clear hk);(try clear hi)))
 go_ret
 exact ⟨by first|rfl|(simp [errW_none,errW_some]<;>rfl)|(simp [*,errW_none,errW_some]<;>rfl),by repeat (first|(with_reducible first|exact HB.out|apply below_alloc|apply pw_below_drewN|apply below_drew1)|exact HB.out)⟩
end Go.Proofs.YtaknchlegjcdhaaGreatDoor.Pr
namespace Go.Proofs.YtaknchlegjcdhaaGreatDoor.Pr
open Go.RowKit Go.Proofs.YtaknchlegjcdhaaGreatDoorW.PrintWords Go.Proofs.YtaknchlegjcdhaaGreatDoorW.PrintLast Go.Proofs.YtaknchlegjcdhaaGreatDoorW.PrintMore
attribute [local go_sem] max2_int min2_int max_two min_two max_three min_three max_four min_four
set_option linter.unusedVariables false
set_option linter.unusedSimpArgs false
def integer_bit.f (a0:Bool):Option (Int):=if a0 = true then (some 1) else (some 0)
set_option maxHeartbeats 8000000 in
set_option maxRecDepth 100000 in
theorem integer_bit.calls (a0:Bool) (r:Int) (w:World) (h:integer_bit.f a0 = some r) :
  Calls Tryz.prog 78 #[.bool a0] w fun e w'=>e = .returned (.int .i64 r)∧Drawn0 w w':=by
 have H:(if a0 = true then (some 1) else (some 0)) = some r:=h
 clear h
 by_cases c2:a0 = true
 ·subst c2
  have H1:(some 1) = some r:=by rw [if_pos rfl] at H;exact H
  clear H
  have H:=H1
  clear H1
  obtain rfl:=Option.some.inj H
  go_enter Tryz.func78,Tryz.ntmps78
  go_wp2
  go_ret
  exact ⟨by first|rfl|(simp;done)|(simp [*];done),by repeat (first|exact Drawn0.refl _|apply Drawn0.step)⟩
 ·replace c2:=Bool.eq_false_iff.mpr c2
  subst c2
  have H1:(some 0) = some r:=by rw [if_neg (show ¬ (false = true) by decide)] at H;exact H
  clear H
  have H:=H1
  clear H1
  obtain rfl:=Option.some.inj H
  go_enter Tryz.func78,Tryz.ntmps78
  go_wp2
  go_ret
  exact ⟨by first|rfl|(simp;done)|(simp [*];done),by repeat (first|exact Drawn0.refl _|apply Drawn0.step)⟩
end Go.Proofs.YtaknchlegjcdhaaGreatDoor.Pr
set_option linter.unusedVariables false
set_option linter.unusedSimpArgs false
namespace Go.Proofs.YtaknchlegjcdhaaGreatDoor.Pr
open Go.RowKit Go.Lib Go.Proofs.YtaknchlegjcdhaaGreatDoorW.PrintWords Go.Proofs.YtaknchlegjcdhaaGreatDoorW.PrintLast Go.Proofs.YtaknchlegjcdhaaGreatDoorW.PrintMore Go.Proofs.YtaknchlegjcdhaaGreatDoor.NatTh
theorem grown_setRow {W:World} {g:Nat} (hg:g < W.heap.size) (cs:Array Value):W.grownBy (W.setRow g cs) (some g):=by
 refine ⟨rfl,rfl,rfl,by simp,fun k hk hne=>?_⟩
 exact setRow_other W g k cs (fun e=>hne (by rw [e]))
theorem store_row {P:Program} {ops:Array Oper} {rest:List Oper} {o:Oper} {a:Act} {W:World} {Q:Exit→Act→World→Prop} (hgd:o.guard = none) (ty:TypeId) (x y:Operand) (ho:o.op = .store ty x y)
  (hd:o.dst = none) (g:Nat) (cells:Array Value) (hx:a.eval x = .pointer (some ⟨g,0,none⟩)) (hy:a.eval y = .agg cells)
  (t:TypeId) (old:Array Value) (hg:W.heap[g]? = some (.cells old t (0,0))) (hi:(P.info? ty).map (·.size) = some cells.size) (hold:old.size = cells.size) (h1:cells.all (·.oneCell') = true)
  (h:∀ w1,w1.heap[g]? = some (.cells cells t (0,0))→W.grownBy w1 (some g)→wpList P ops Q rest a w1):wpList P ops Q (o :: rest) a W :=
 wpList_store_rowTo hgd ty x y ho hd g cells hx hy t old hg hi hold h1 (h _ (setRow_heap W g old cells t (0,0) hg) (grown_setRow (blk_lt hg) cells))
theorem far1 {w:World} {g h i k:Nat} {x:Value} (hn:g≠h):(w.setCell ⟨g,i,none⟩ x).cell? ⟨h,k,none⟩ = w.cell? ⟨h,k,none⟩:=World.cell?_setCell_far w _ _ _ hn
theorem far2 {w:World} {g h i j k:Nat} {x y:Value} (hn:g≠h):((w.setCell ⟨g,i,none⟩ x).setCell ⟨g,j,none⟩ y).cell? ⟨h,k,none⟩ = w.cell? ⟨h,k,none⟩:=(far1 hn).trans (far1 hn)
set_option maxHeartbeats 8000000 in
set_option maxRecDepth 100000 in
theorem plus_ff (a1:ByteArray) (b1:ByteArray) (r:Bool × ByteArray) (w:World)
  (hs:∀ W,Below w.heap.size w W→Calls Tryz.prog 76 #[.agg #[.bool false,.string a1],.agg #[.bool false,.string b1]] W fun e W'=>e = .returned (.agg #[.bool r.1,.string r.2])∧Below W.heap.size W W') :
  Calls Tryz.prog 52 #[.agg #[.bool false,.string a1],.agg #[.bool false,.string b1]] w fun e w'=>e = .returned (.agg #[.bool r.1,.string r.2])∧Below w.heap.size w w':=by
 have hu43:=Tryz.underlying43
 have HS:=Aside0.mk hs
 have HB0:=Aside0.mk (Below.refl w.heap.size w)
 clear hs
 go_enter Tryz.func52,Tryz.ntmps52
 go_upto_region 2 with (first
  | ((with_reducible refine gate_dst (N:=2) rfl ?_);refine box_event ?hg (N:=2) ?hd (cs:=#[.bool false,.string a1]) (t:=43) ?hr ?_;(case hd=>rfl);(case hg=>rfl);(case hr=>first|(go_simp;done)|(go_simp;rfl));intro g2 hg2 w2 hbox2 hb2;have HB2:=Aside0.mk hb2;have K2:=Aside0.mk hbox2;have E2:=Aside0.mk hg2;clear hb2 hbox2 hg2)
  | ((with_reducible refine gate_dst (N:=3) rfl ?_);refine box_event ?hg (N:=3) ?hd (cs:=#[.bool false,.string b1]) (t:=43) ?hr ?_;(case hd=>rfl);(case hg=>rfl);(case hr=>first|(go_simp;done)|(go_simp;rfl));intro g3 hg3 w3 hbox3 hb3;have HB3:=Aside0.mk (below_step HB2.out hb3);have K3:=Aside0.mk hbox3;have K2a:=Aside0.mk (blk_below K2.out hb3);clear hb3 hbox3 hg3)
  | ((with_reducible refine gate_dst (N:=4) rfl ?_);refine box_event ?hg (N:=4) ?hd (cs:=#[.bool false,.string (⟨#[]⟩:ByteArray)]) (t:=43) ?hr ?_;(case hd=>rfl);(case hg=>rfl);(case hr=>first|(go_simp;done)|(go_simp;rfl));intro g4 hg4 w4 hbox4 hb4;have E4:=Aside0.mk (by rw [hg4];exact below_size HB3.out:w.heap.size≤g4);have HB4:=Aside0.mk (below_step HB3.out hb4);have K4:=Aside0.mk hbox4;have N42:=Aside0.mk (by rw [hg4];exact Nat.ne_of_gt (blk_lt K2a.out):g4≠g2);have N43:=Aside0.mk (by rw [hg4];exact Nat.ne_of_gt (blk_lt K3.out):g4≠g3);have K2b:=Aside0.mk (blk_below K2a.out hb4);have K3b:=Aside0.mk (blk_below K3.out hb4);clear hb4 hbox4 hg4)
  | ((with_reducible refine gate_dst (N:=5) rfl ?_);refine box_event ?hg (N:=5) ?hd (cs:=#[.nilFunc,.nilFunc,.nilFunc,.nilFunc]) (t:=89) ?hr ?_;(case hd=>rfl);(case hg=>rfl);(case hr=>first|(go_simp;done)|(go_simp;rfl));intro g5 hg5 w5 hbox5 hb5;have E5:=Aside0.mk (by rw [hg5];exact below_size HB4.out:w.heap.size≤g5);have N5:=Aside0.mk (by rw [hg5];exact Nat.ne_of_lt (blk_lt K2b.out):g2≠g5);have M5:=Aside0.mk (by rw [hg5];exact Nat.ne_of_lt (blk_lt K3b.out):g3≠g5);have L5:=Aside0.mk (by rw [hg5];exact Nat.ne_of_lt (blk_lt K4.out):g4≠g5);have N45:=Aside0.mk (by rw [hg5];exact Nat.ne_of_lt (blk_lt K4.out):g4≠g5);have HB5:=Aside0.mk (below_step HB4.out hb5);have K5:=Aside0.mk hbox5;have K2c:=Aside0.mk (blk_below K2b.out hb5);have K3c:=Aside0.mk (blk_below K3b.out hb5);have K4c:=Aside0.mk (blk_below K4.out hb5);clear hb5 hbox5 hg5)
  | ((with_reducible refine gate_store (t:=89) (p:=5) (v:=.tmp 8) rfl ?_);refine store_row rfl 89 (.tmp 5) (.tmp 8) rfl rfl g5 #[.func (.func 76) #[] #[],.func (.func 77) #[] #[],.func (.func 77) #[] #[],.func (.func 76) #[] #[]] rfl rfl 89 _ K5.out (by kernel_rfl) (by rfl) (by simp [Value.oneCell']) ?_;intro w6 hb6 hG6))
 have HB6:=Aside0.mk (pw_below_grown HB5.out _ HB5.out.size hG6 (fun k hk=>by injection hk with hk;rw [← hk];exact E5.out))
 have B2:=Aside0.mk ((hG6.block g2 (blk_lt K2c.out) (fun he=>N5.out (by injection he))).trans K2c.out)
 have B3:=Aside0.mk ((hG6.block g3 (blk_lt K3c.out) (fun he=>M5.out (by injection he))).trans K3c.out)
 have B4:=Aside0.mk ((hG6.block g4 (blk_lt K4c.out) (fun he=>L5.out (by injection he))).trans K4c.out)
 have B5:=Aside0.mk hb6
 clear hb6 hG6
 have N42:=Aside0.mk N42.out
 have c0:=blk_cell B2.out 0
 have c1:=blk_cell B2.out 1
 have c2:=blk_cell B3.out 0
 have c3:=blk_cell B3.out 1
 have c4:=blk_cell B5.out 0
 have c5:=blk_cell B5.out 1
 have c6:=blk_cell B5.out 2
 have c7:=blk_cell B5.out 3
 have l2:g2 < w6.heap.size:=blk_lt B2.out
 have l3:g3 < w6.heap.size:=blk_lt B3.out
 have l5:g5 < w6.heap.size:=blk_lt B5.out
 go_region_held3 (fun w'=>w'.cell? ⟨g2,0,none⟩ = some (.bool false)∧w'.cell? ⟨g2,1,none⟩ = some (.string a1)∧w'.cell? ⟨g3,0,none⟩ = some (.bool false)∧w'.cell? ⟨g3,1,none⟩ = some (.string b1)∧w'.cell? ⟨g5,0,none⟩ = some (.func (.func 76) #[] #[])∧w'.cell? ⟨g5,1,none⟩ = some (.func (.func 77) #[] #[])∧w'.cell? ⟨g5,2,none⟩ = some (.func (.func 77) #[] #[])∧w'.cell? ⟨g5,3,none⟩ = some (.func (.func 76) #[] #[]))
  (first|exact ⟨c0,c1,c2,c3,c4,c5,c6,c7⟩|exact ⟨p0,p1,p2,p3,p4,p5,p6,p7⟩|exact ⟨q0,q1,q2,q3,q4,q5,q6,q7⟩|exact ⟨r0,r1,r2,r3,r4,r5,r6,r7⟩|exact ⟨(far2 N42.out).trans r0,(far2 N42.out).trans r1,(far2 N43.out).trans r2,(far2 N43.out).trans r3,(far2 N45.out).trans r4,(far2 N45.out).trans r5,(far2 N45.out).trans r6,(far2 N45.out).trans r7⟩|exact ⟨(far1 N42.out).trans r0,(far1 N42.out).trans r1,(far1 N43.out).trans r2,(far1 N43.out).trans r3,(far1 N45.out).trans r4,(far1 N45.out).trans r5,(far1 N45.out).trans r6,(far1 N45.out).trans r7⟩)
  (first
   | (go_at_call 78;refine (integer_bit.calls false 0 _ rfl).mono ?_;rintro e wa ⟨rfl,hda⟩;have hba:=hda.below;have HBa:=Aside0.mk (below_step (below_drew1 HB6.out) hba);have p0:=(hba.cell (p:=⟨g2,0,none⟩) l2).trans c0;have p1:=(hba.cell (p:=⟨g2,1,none⟩) l2).trans c1;have p2:=(hba.cell (p:=⟨g3,0,none⟩) l3).trans c2;have p3:=(hba.cell (p:=⟨g3,1,none⟩) l3).trans c3;have p4:=(hba.cell (p:=⟨g5,0,none⟩) l5).trans c4;have p5:=(hba.cell (p:=⟨g5,1,none⟩) l5).trans c5;have p6:=(hba.cell (p:=⟨g5,2,none⟩) l5).trans c6;have p7:=(hba.cell (p:=⟨g5,3,none⟩) l5).trans c7;have l2a:=Nat.lt_of_lt_of_le l2 hba.size;have l3a:=Nat.lt_of_lt_of_le l3 hba.size;have l5a:=Nat.lt_of_lt_of_le l5 hba.size;have B4a:=Aside0.mk (blk_below (blk_drew B4.out) hba);clear hba hda)
   | (go_at_call 78;refine (integer_bit.calls false 0 _ rfl).mono ?_;rintro e wb ⟨rfl,hdb⟩;have hbb:=hdb.below;have HBb:=Aside0.mk (below_step HBa.out hbb);have q0:=(hbb.cell (p:=⟨g2,0,none⟩) l2a).trans p0;have q1:=(hbb.cell (p:=⟨g2,1,none⟩) l2a).trans p1;have q2:=(hbb.cell (p:=⟨g3,0,none⟩) l3a).trans p2;have q3:=(hbb.cell (p:=⟨g3,1,none⟩) l3a).trans p3;have q4:=(hbb.cell (p:=⟨g5,0,none⟩) l5a).trans p4;have q5:=(hbb.cell (p:=⟨g5,1,none⟩) l5a).trans p5;have q6:=(hbb.cell (p:=⟨g5,2,none⟩) l5a).trans p6;have q7:=(hbb.cell (p:=⟨g5,3,none⟩) l5a).trans p7;have l2b:=Nat.lt_of_lt_of_le l2a hbb.size;have l3b:=Nat.lt_of_lt_of_le l3a hbb.size;have l5b:=Nat.lt_of_lt_of_le l5a hbb.size;have B4b:=Aside0.mk (blk_below B4a.out hbb);clear hbb hdb)
   | (go_at_call 76;refine (HS.out _ HBb.out).mono ?_;rintro e wc ⟨rfl,hbc⟩;have HBc:=Aside0.mk (below_step HBb.out hbc);have r0:=(hbc.cell (p:=⟨g2,0,none⟩) l2b).trans q0;have r1:=(hbc.cell (p:=⟨g2,1,none⟩) l2b).trans q1;have r2:=(hbc.cell (p:=⟨g3,0,none⟩) l3b).trans q2;have r3:=(hbc.cell (p:=⟨g3,1,none⟩) l3b).trans q3;have r4:=(hbc.cell (p:=⟨g5,0,none⟩) l5b).trans q4;have r5:=(hbc.cell (p:=⟨g5,1,none⟩) l5b).trans q5;have r6:=(hbc.cell (p:=⟨g5,2,none⟩) l5b).trans q6;have r7:=(hbc.cell (p:=⟨g5,3,none⟩) l5b).trans q7;have B4c:=Aside0.mk (blk_below B4b.out hbc);have d0:=blk_cell B4c.out 0;have d1:=blk_cell B4c.out 1;have z0:=blk_frozen B4c.out 0;have z1:=blk_frozen B4c.out 1;clear hbc))
 go_wp2
 refine bodyPost_ret (results_cell_row rfl _ _ g4 43 #[.bool r.1,.string r.2] (0,0) _ rfl (blk_put (cs:=#[.bool r.1,.string (⟨#[]⟩:ByteArray)]) (blk_put (cs:=#[.bool false,.string (⟨#[]⟩:ByteArray)]) B4c.out 0 _ rfl) 1 _ rfl) Tryz.underlying43 rfl (by kernel_rfl)) rfl ?_
 exact ⟨rfl,below_set (below_set HBc.out E4.out) E4.out⟩
set_option maxHeartbeats 8000000 in
set_option maxRecDepth 100000 in
theorem plus_ft (a1:ByteArray) (b1:ByteArray) (r:Bool × ByteArray) (w:World)
  (hs:∀ W,Below w.heap.size w W→Calls Tryz.prog 77 #[.agg #[.bool false,.string a1],.agg #[.bool true,.string b1]] W fun e W'=>e = .returned (.agg #[.bool r.1,.string r.2])∧Below W.heap.size W W') :
  Calls Tryz.prog 52 #[.agg #[.bool false,.string a1],.agg #[.bool true,.string b1]] w fun e w'=>e = .returned (.agg #[.bool r.1,.string r.2])∧Below w.heap.size w w':=by
 have hu43:=Tryz.underlying43
 have HS:=Aside0.mk hs
 have HB0:=Aside0.mk (Below.refl w.heap.size w)
 clear hs
 go_enter Tryz.func52,Tryz.ntmps52
 go_upto_region 2 with (first
  | ((with_reducible refine gate_dst (N:=2) rfl ?_);refine box_event ?hg (N:=2) ?hd (cs:=#[.bool false,.string a1]) (t:=43) ?hr ?_;(case hd=>rfl);(case hg=>rfl);(case hr=>first|(go_simp;done)|(go_simp;rfl));intro g2 hg2 w2 hbox2 hb2;have HB2:=Aside0.mk hb2;have K2:=Aside0.mk hbox2;have E2:=Aside0.mk hg2;clear hb2 hbox2 hg2)
  | ((with_reducible refine gate_dst (N:=3) rfl ?_);refine box_event ?hg (N:=3) ?hd (cs:=#[.bool true,.string b1]) (t:=43) ?hr ?_;(case hd=>rfl);(case hg=>rfl);(case hr=>first|(go_simp;done)|(go_simp;rfl));intro g3 hg3 w3 hbox3 hb3;have HB3:=Aside0.mk (below_step HB2.out hb3);have K3:=Aside0.mk hbox3;have K2a:=Aside0.mk (blk_below K2.out hb3);clear hb3 hbox3 hg3)
  | ((with_reducible refine gate_dst (N:=4) rfl ?_);refine box_event ?hg (N:=4) ?hd (cs:=#[.bool false,.string (⟨#[]⟩:ByteArray)]) (t:=43) ?hr ?_;(case hd=>rfl);(case hg=>rfl);(case hr=>first|(go_simp;done)|(go_simp;rfl));intro g4 hg4 w4 hbox4 hb4;have E4:=Aside0.mk (by rw [hg4];exact below_size HB3.out:w.heap.size≤g4);have HB4:=Aside0.mk (below_step HB3.out hb4);have K4:=Aside0.mk hbox4;have N42:=Aside0.mk (by rw [hg4];exact Nat.ne_of_gt (blk_lt K2a.out):g4≠g2);have N43:=Aside0.mk (by rw [hg4];exact Nat.ne_of_gt (blk_lt K3.out):g4≠g3);have K2b:=Aside0.mk (blk_below K2a.out hb4);have K3b:=Aside0.mk (blk_below K3.out hb4);clear hb4 hbox4 hg4)
  | ((with_reducible refine gate_dst (N:=5) rfl ?_);refine box_event ?hg (N:=5) ?hd (cs:=#[.nilFunc,.nilFunc,.nilFunc,.nilFunc]) (t:=89) ?hr ?_;(case hd=>rfl);(case hg=>rfl);(case hr=>first|(go_simp;done)|(go_simp;rfl));intro g5 hg5 w5 hbox5 hb5;have E5:=Aside0.mk (by rw [hg5];exact below_size HB4.out:w.heap.size≤g5);have N5:=Aside0.mk (by rw [hg5];exact Nat.ne_of_lt (blk_lt K2b.out):g2≠g5);have M5:=Aside0.mk (by rw [hg5];exact Nat.ne_of_lt (blk_lt K3b.out):g3≠g5);have L5:=Aside0.mk (by rw [hg5];exact Nat.ne_of_lt (blk_lt K4.out):g4≠g5);have N45:=Aside0.mk (by rw [hg5];exact Nat.ne_of_lt (blk_lt K4.out):g4≠g5);have HB5:=Aside0.mk (below_step HB4.out hb5);have K5:=Aside0.mk hbox5;have K2c:=Aside0.mk (blk_below K2b.out hb5);have K3c:=Aside0.mk (blk_below K3b.out hb5);have K4c:=Aside0.mk (blk_below K4.out hb5);clear hb5 hbox5 hg5)
  | ((with_reducible refine gate_store (t:=89) (p:=5) (v:=.tmp 8) rfl ?_);refine store_row rfl 89 (.tmp 5) (.tmp 8) rfl rfl g5 #[.func (.func 76) #[] #[],.func (.func 77) #[] #[],.func (.func 77) #[] #[],.func (.func 76) #[] #[]] rfl rfl 89 _ K5.out (by kernel_rfl) (by rfl) (by simp [Value.oneCell']) ?_;intro w6 hb6 hG6))
 have HB6:=Aside0.mk (pw_below_grown HB5.out _ HB5.out.size hG6 (fun k hk=>by injection hk with hk;rw [← hk];exact E5.out))
 have B2:=Aside0.mk ((hG6.block g2 (blk_lt K2c.out) (fun he=>N5.out (by injection he))).trans K2c.out)
 have B3:=Aside0.mk ((hG6.block g3 (blk_lt K3c.out) (fun he=>M5.out (by injection he))).trans K3c.out)
 have B4:=Aside0.mk ((hG6.block g4 (blk_lt K4c.out) (fun he=>L5.out (by injection he))).trans K4c.out)
 have B5:=Aside0.mk hb6
 clear hb6 hG6
 have N42:=Aside0.mk N42.out
 have c0:=blk_cell B2.out 0
 have c1:=blk_cell B2.out 1
 have c2:=blk_cell B3.out 0
 have c3:=blk_cell B3.out 1
 have c4:=blk_cell B5.out 0
 have c5:=blk_cell B5.out 1
 have c6:=blk_cell B5.out 2
 have c7:=blk_cell B5.out 3
 have l2:g2 < w6.heap.size:=blk_lt B2.out
 have l3:g3 < w6.heap.size:=blk_lt B3.out
 have l5:g5 < w6.heap.size:=blk_lt B5.out
 go_region_held3 (fun w'=>w'.cell? ⟨g2,0,none⟩ = some (.bool false)∧w'.cell? ⟨g2,1,none⟩ = some (.string a1)∧w'.cell? ⟨g3,0,none⟩ = some (.bool true)∧w'.cell? ⟨g3,1,none⟩ = some (.string b1)∧w'.cell? ⟨g5,0,none⟩ = some (.func (.func 76) #[] #[])∧w'.cell? ⟨g5,1,none⟩ = some (.func (.func 77) #[] #[])∧w'.cell? ⟨g5,2,none⟩ = some (.func (.func 77) #[] #[])∧w'.cell? ⟨g5,3,none⟩ = some (.func (.func 76) #[] #[]))
  (first|exact ⟨c0,c1,c2,c3,c4,c5,c6,c7⟩|exact ⟨p0,p1,p2,p3,p4,p5,p6,p7⟩|exact ⟨q0,q1,q2,q3,q4,q5,q6,q7⟩|exact ⟨r0,r1,r2,r3,r4,r5,r6,r7⟩|exact ⟨(far2 N42.out).trans r0,(far2 N42.out).trans r1,(far2 N43.out).trans r2,(far2 N43.out).trans r3,(far2 N45.out).trans r4,(far2 N45.out).trans r5,(far2 N45.out).trans r6,(far2 N45.out).trans r7⟩|exact ⟨(far1 N42.out).trans r0,(far1 N42.out).trans r1,(far1 N43.out).trans r2,(far1 N43.out).trans r3,(far1 N45.out).trans r4,(far1 N45.out).trans r5,(far1 N45.out).trans r6,(far1 N45.out).trans r7⟩)
  (first
   | (go_at_call 78;refine (integer_bit.calls false 0 _ rfl).mono ?_;rintro e wa ⟨rfl,hda⟩;have hba:=hda.below;have HBa:=Aside0.mk (below_step (below_drew1 HB6.out) hba);have p0:=(hba.cell (p:=⟨g2,0,none⟩) l2).trans c0;have p1:=(hba.cell (p:=⟨g2,1,none⟩) l2).trans c1;have p2:=(hba.cell (p:=⟨g3,0,none⟩) l3).trans c2;have p3:=(hba.cell (p:=⟨g3,1,none⟩) l3).trans c3;have p4:=(hba.cell (p:=⟨g5,0,none⟩) l5).trans c4;have p5:=(hba.cell (p:=⟨g5,1,none⟩) l5).trans c5;have p6:=(hba.cell (p:=⟨g5,2,none⟩) l5).trans c6;have p7:=(hba.cell (p:=⟨g5,3,none⟩) l5).trans c7;have l2a:=Nat.lt_of_lt_of_le l2 hba.size;have l3a:=Nat.lt_of_lt_of_le l3 hba.size;have l5a:=Nat.lt_of_lt_of_le l5 hba.size;have B4a:=Aside0.mk (blk_below (blk_drew B4.out) hba);clear hba hda)
   | (go_at_call 78;refine (integer_bit.calls true 1 _ rfl).mono ?_;rintro e wb ⟨rfl,hdb⟩;have hbb:=hdb.below;have HBb:=Aside0.mk (below_step HBa.out hbb);have q0:=(hbb.cell (p:=⟨g2,0,none⟩) l2a).trans p0;have q1:=(hbb.cell (p:=⟨g2,1,none⟩) l2a).trans p1;have q2:=(hbb.cell (p:=⟨g3,0,none⟩) l3a).trans p2;have q3:=(hbb.cell (p:=⟨g3,1,none⟩) l3a).trans p3;have q4:=(hbb.cell (p:=⟨g5,0,none⟩) l5a).trans p4;have q5:=(hbb.cell (p:=⟨g5,1,none⟩) l5a).trans p5;have q6:=(hbb.cell (p:=⟨g5,2,none⟩) l5a).trans p6;have q7:=(hbb.cell (p:=⟨g5,3,none⟩) l5a).trans p7;have l2b:=Nat.lt_of_lt_of_le l2a hbb.size;have l3b:=Nat.lt_of_lt_of_le l3a hbb.size;have l5b:=Nat.lt_of_lt_of_le l5a hbb.size;have B4b:=Aside0.mk (blk_below B4a.out hbb);clear hbb hdb)
   | (go_at_call 77;refine (HS.out _ HBb.out).mono ?_;rintro e wc ⟨rfl,hbc⟩;have HBc:=Aside0.mk (below_step HBb.out hbc);have r0:=(hbc.cell (p:=⟨g2,0,none⟩) l2b).trans q0;have r1:=(hbc.cell (p:=⟨g2,1,none⟩) l2b).trans q1;have r2:=(hbc.cell (p:=⟨g3,0,none⟩) l3b).trans q2;have r3:=(hbc.cell (p:=⟨g3,1,none⟩) l3b).trans q3;have r4:=(hbc.cell (p:=⟨g5,0,none⟩) l5b).trans q4;have r5:=(hbc.cell (p:=⟨g5,1,none⟩) l5b).trans q5;have r6:=(hbc.cell (p:=⟨g5,2,none⟩) l5b).trans q6;have r7:=(hbc.cell (p:=⟨g5,3,none⟩) l5b).trans q7;have B4c:=Aside0.mk (blk_below B4b.out hbc);have d0:=blk_cell B4c.out 0;have d1:=blk_cell B4c.out 1;have z0:=blk_frozen B4c.out 0;have z1:=blk_frozen B4c.out 1;clear hbc))
 go_wp2
 refine bodyPost_ret (results_cell_row rfl _ _ g4 43 #[.bool r.1,.string r.2] (0,0) _ rfl (blk_put (cs:=#[.bool r.1,.string (⟨#[]⟩:ByteArray)]) (blk_put (cs:=#[.bool false,.string (⟨#[]⟩:ByteArray)]) B4c.out 0 _ rfl) 1 _ rfl) Tryz.underlying43 rfl (by kernel_rfl)) rfl ?_
 exact ⟨rfl,below_set (below_set HBc.out E4.out) E4.out⟩
set_option maxHeartbeats 8000000 in
set_option maxRecDepth 100000 in
theorem plus_tf (a1:ByteArray) (b1:ByteArray) (r:Bool × ByteArray) (w:World)
  (hs:∀ W,Below w.heap.size w W→Calls Tryz.prog 77 #[.agg #[.bool true,.string a1],.agg #[.bool false,.string b1]] W fun e W'=>e = .returned (.agg #[.bool r.1,.string r.2])∧Below W.heap.size W W') :
  Calls Tryz.prog 52 #[.agg #[.bool true,.string a1],.agg #[.bool false,.string b1]] w fun e w'=>e = .returned (.agg #[.bool r.1,.string r.2])∧Below w.heap.size w w':=by
 have hu43:=Tryz.underlying43
 have HS:=Aside0.mk hs
 have HB0:=Aside0.mk (Below.refl w.heap.size w)
 clear hs
 go_enter Tryz.func52,Tryz.ntmps52
 go_upto_region 2 with (first
  | ((with_reducible refine gate_dst (N:=2) rfl ?_);refine box_event ?hg (N:=2) ?hd (cs:=#[.bool true,.string a1]) (t:=43) ?hr ?_;(case hd=>rfl);(case hg=>rfl);(case hr=>first|(go_simp;done)|(go_simp;rfl));intro g2 hg2 w2 hbox2 hb2;have HB2:=Aside0.mk hb2;have K2:=Aside0.mk hbox2;have E2:=Aside0.mk hg2;clear hb2 hbox2 hg2)
  | ((with_reducible refine gate_dst (N:=3) rfl ?_);refine box_event ?hg (N:=3) ?hd (cs:=#[.bool false,.string b1]) (t:=43) ?hr ?_;(case hd=>rfl);(case hg=>rfl);(case hr=>first|(go_simp;done)|(go_simp;rfl));intro g3 hg3 w3 hbox3 hb3;have HB3:=Aside0.mk (below_step HB2.out hb3);have K3:=Aside0.mk hbox3;have K2a:=Aside0.mk (blk_below K2.out hb3);clear hb3 hbox3 hg3)
  | ((with_reducible refine gate_dst (N:=4) rfl ?_);refine box_event ?hg (N:=4) ?hd (cs:=#[.bool false,.string (⟨#[]⟩:ByteArray)]) (t:=43) ?hr ?_;(case hd=>rfl);(case hg=>rfl);(case hr=>first|(go_simp;done)|(go_simp;rfl));intro g4 hg4 w4 hbox4 hb4;have E4:=Aside0.mk (by rw [hg4];exact below_size HB3.out:w.heap.size≤g4);have HB4:=Aside0.mk (below_step HB3.out hb4);have K4:=Aside0.mk hbox4;have N42:=Aside0.mk (by rw [hg4];exact Nat.ne_of_gt (blk_lt K2a.out):g4≠g2);have N43:=Aside0.mk (by rw [hg4];exact Nat.ne_of_gt (blk_lt K3.out):g4≠g3);have K2b:=Aside0.mk (blk_below K2a.out hb4);have K3b:=Aside0.mk (blk_below K3.out hb4);clear hb4 hbox4 hg4)
  | ((with_reducible refine gate_dst (N:=5) rfl ?_);refine box_event ?hg (N:=5) ?hd (cs:=#[.nilFunc,.nilFunc,.nilFunc,.nilFunc]) (t:=89) ?hr ?_;(case hd=>rfl);(case hg=>rfl);(case hr=>first|(go_simp;done)|(go_simp;rfl));intro g5 hg5 w5 hbox5 hb5;have E5:=Aside0.mk (by rw [hg5];exact below_size HB4.out:w.heap.size≤g5);have N5:=Aside0.mk (by rw [hg5];exact Nat.ne_of_lt (blk_lt K2b.out):g2≠g5);have M5:=Aside0.mk (by rw [hg5];exact Nat.ne_of_lt (blk_lt K3b.out):g3≠g5);have L5:=Aside0.mk (by rw [hg5];exact Nat.ne_of_lt (blk_lt K4.out):g4≠g5);have N45:=Aside0.mk (by rw [hg5];exact Nat.ne_of_lt (blk_lt K4.out):g4≠g5);have HB5:=Aside0.mk (below_step HB4.out hb5);have K5:=Aside0.mk hbox5;have K2c:=Aside0.mk (blk_below K2b.out hb5);have K3c:=Aside0.mk (blk_below K3b.out hb5);have K4c:=Aside0.mk (blk_below K4.out hb5);clear hb5 hbox5 hg5)
  | ((with_reducible refine gate_store (t:=89) (p:=5) (v:=.tmp 8) rfl ?_);refine store_row rfl 89 (.tmp 5) (.tmp 8) rfl rfl g5 #[.func (.func 76) #[] #[],.func (.func 77) #[] #[],.func (.func 77) #[] #[],.func (.func 76) #[] #[]] rfl rfl 89 _ K5.out (by kernel_rfl) (by rfl) (by simp [Value.oneCell']) ?_;intro w6 hb6 hG6))
 have HB6:=Aside0.mk (pw_below_grown HB5.out _ HB5.out.size hG6 (fun k hk=>by injection hk with hk;rw [← hk];exact E5.out))
 have B2:=Aside0.mk ((hG6.block g2 (blk_lt K2c.out) (fun he=>N5.out (by injection he))).trans K2c.out)
 have B3:=Aside0.mk ((hG6.block g3 (blk_lt K3c.out) (fun he=>M5.out (by injection he))).trans K3c.out)
 have B4:=Aside0.mk ((hG6.block g4 (blk_lt K4c.out) (fun he=>L5.out (by injection he))).trans K4c.out)
 have B5:=Aside0.mk hb6
 clear hb6 hG6
 have N42:=Aside0.mk N42.out
 have c0:=blk_cell B2.out 0
 have c1:=blk_cell B2.out 1
 have c2:=blk_cell B3.out 0
 have c3:=blk_cell B3.out 1
 have c4:=blk_cell B5.out 0
 have c5:=blk_cell B5.out 1
 have c6:=blk_cell B5.out 2
 have c7:=blk_cell B5.out 3
 have l2:g2 < w6.heap.size:=blk_lt B2.out
 have l3:g3 < w6.heap.size:=blk_lt B3.out
 have l5:g5 < w6.heap.size:=blk_lt B5.out
 go_region_held3 (fun w'=>w'.cell? ⟨g2,0,none⟩ = some (.bool true)∧w'.cell? ⟨g2,1,none⟩ = some (.string a1)∧w'.cell? ⟨g3,0,none⟩ = some (.bool false)∧w'.cell? ⟨g3,1,none⟩ = some (.string b1)∧w'.cell? ⟨g5,0,none⟩ = some (.func (.func 76) #[] #[])∧w'.cell? ⟨g5,1,none⟩ = some (.func (.func 77) #[] #[])∧w'.cell? ⟨g5,2,none⟩ = some (.func (.func 77) #[] #[])∧w'.cell? ⟨g5,3,none⟩ = some (.func (.func 76) #[] #[]))
  (first|exact ⟨c0,c1,c2,c3,c4,c5,c6,c7⟩|exact ⟨p0,p1,p2,p3,p4,p5,p6,p7⟩|exact ⟨q0,q1,q2,q3,q4,q5,q6,q7⟩|exact ⟨r0,r1,r2,r3,r4,r5,r6,r7⟩|exact ⟨(far2 N42.out).trans r0,(far2 N42.out).trans r1,(far2 N43.out).trans r2,(far2 N43.out).trans r3,(far2 N45.out).trans r4,(far2 N45.out).trans r5,(far2 N45.out).trans r6,(far2 N45.out).trans r7⟩|exact ⟨(far1 N42.out).trans r0,(far1 N42.out).trans r1,(far1 N43.out).trans r2,(far1 N43.out).trans r3,(far1 N45.out).trans r4,(far1 N45.out).trans r5,(far1 N45.out).trans r6,(far1 N45.out).trans r7⟩)
  (first
   | (go_at_call 78;refine (integer_bit.calls true 1 _ rfl).mono ?_;rintro e wa ⟨rfl,hda⟩;have hba:=hda.below;have HBa:=Aside0.mk (below_step (below_drew1 HB6.out) hba);have p0:=(hba.cell (p:=⟨g2,0,none⟩) l2).trans c0;have p1:=(hba.cell (p:=⟨g2,1,none⟩) l2).trans c1;have p2:=(hba.cell (p:=⟨g3,0,none⟩) l3).trans c2;have p3:=(hba.cell (p:=⟨g3,1,none⟩) l3).trans c3;have p4:=(hba.cell (p:=⟨g5,0,none⟩) l5).trans c4;have p5:=(hba.cell (p:=⟨g5,1,none⟩) l5).trans c5;have p6:=(hba.cell (p:=⟨g5,2,none⟩) l5).trans c6;have p7:=(hba.cell (p:=⟨g5,3,none⟩) l5).trans c7;have l2a:=Nat.lt_of_lt_of_le l2 hba.size;have l3a:=Nat.lt_of_lt_of_le l3 hba.size;have l5a:=Nat.lt_of_lt_of_le l5 hba.size;have B4a:=Aside0.mk (blk_below (blk_drew B4.out) hba);clear hba hda)
   | (go_at_call 78;refine (integer_bit.calls false 0 _ rfl).mono ?_;rintro e wb ⟨rfl,hdb⟩;have hbb:=hdb.below;have HBb:=Aside0.mk (below_step HBa.out hbb);have q0:=(hbb.cell (p:=⟨g2,0,none⟩) l2a).trans p0;have q1:=(hbb.cell (p:=⟨g2,1,none⟩) l2a).trans p1;have q2:=(hbb.cell (p:=⟨g3,0,none⟩) l3a).trans p2;have q3:=(hbb.cell (p:=⟨g3,1,none⟩) l3a).trans p3;have q4:=(hbb.cell (p:=⟨g5,0,none⟩) l5a).trans p4;have q5:=(hbb.cell (p:=⟨g5,1,none⟩) l5a).trans p5;have q6:=(hbb.cell (p:=⟨g5,2,none⟩) l5a).trans p6;have q7:=(hbb.cell (p:=⟨g5,3,none⟩) l5a).trans p7;have l2b:=Nat.lt_of_lt_of_le l2a hbb.size;have l3b:=Nat.lt_of_lt_of_le l3a hbb.size;have l5b:=Nat.lt_of_lt_of_le l5a hbb.size;have B4b:=Aside0.mk (blk_below B4a.out hbb);clear hbb hdb)
   | (go_at_call 77;refine (HS.out _ HBb.out).mono ?_;rintro e wc ⟨rfl,hbc⟩;have HBc:=Aside0.mk (below_step HBb.out hbc);have r0:=(hbc.cell (p:=⟨g2,0,none⟩) l2b).trans q0;have r1:=(hbc.cell (p:=⟨g2,1,none⟩) l2b).trans q1;have r2:=(hbc.cell (p:=⟨g3,0,none⟩) l3b).trans q2;have r3:=(hbc.cell (p:=⟨g3,1,none⟩) l3b).trans q3;have r4:=(hbc.cell (p:=⟨g5,0,none⟩) l5b).trans q4;have r5:=(hbc.cell (p:=⟨g5,1,none⟩) l5b).trans q5;have r6:=(hbc.cell (p:=⟨g5,2,none⟩) l5b).trans q6;have r7:=(hbc.cell (p:=⟨g5,3,none⟩) l5b).trans q7;have B4c:=Aside0.mk (blk_below B4b.out hbc);have d0:=blk_cell B4c.out 0;have d1:=blk_cell B4c.out 1;have z0:=blk_frozen B4c.out 0;have z1:=blk_frozen B4c.out 1;clear hbc))
 go_wp2
 refine bodyPost_ret (results_cell_row rfl _ _ g4 43 #[.bool r.1,.string r.2] (0,0) _ rfl (blk_put (cs:=#[.bool r.1,.string (⟨#[]⟩:ByteArray)]) (blk_put (cs:=#[.bool false,.string (⟨#[]⟩:ByteArray)]) B4c.out 0 _ rfl) 1 _ rfl) Tryz.underlying43 rfl (by kernel_rfl)) rfl ?_
 exact ⟨rfl,below_set (below_set HBc.out E4.out) E4.out⟩
set_option maxHeartbeats 8000000 in
set_option maxRecDepth 100000 in
theorem plus_tt (a1:ByteArray) (b1:ByteArray) (r:Bool × ByteArray) (w:World)
  (hs:∀ W,Below w.heap.size w W→Calls Tryz.prog 76 #[.agg #[.bool true,.string a1],.agg #[.bool true,.string b1]] W fun e W'=>e = .returned (.agg #[.bool r.1,.string r.2])∧Below W.heap.size W W') :
  Calls Tryz.prog 52 #[.agg #[.bool true,.string a1],.agg #[.bool true,.string b1]] w fun e w'=>e = .returned (.agg #[.bool r.1,.string r.2])∧Below w.heap.size w w':=by
 have hu43:=Tryz.underlying43
 have HS:=Aside0.mk hs
 have HB0:=Aside0.mk (Below.refl w.heap.size w)
 clear hs
 go_enter Tryz.func52,Tryz.ntmps52
 go_upto_region 2 with (first
  | ((with_reducible refine gate_dst (N:=2) rfl ?_);refine box_event ?hg (N:=2) ?hd (cs:=#[.bool true,.string a1]) (t:=43) ?hr ?_;(case hd=>rfl);(case hg=>rfl);(case hr=>first|(go_simp;done)|(go_simp;rfl));intro g2 hg2 w2 hbox2 hb2;have HB2:=Aside0.mk hb2;have K2:=Aside0.mk hbox2;have E2:=Aside0.mk hg2;clear hb2 hbox2 hg2)
  | ((with_reducible refine gate_dst (N:=3) rfl ?_);refine box_event ?hg (N:=3) ?hd (cs:=#[.bool true,.string b1]) (t:=43) ?hr ?_;(case hd=>rfl);(case hg=>rfl);(case hr=>first|(go_simp;done)|(go_simp;rfl));intro g3 hg3 w3 hbox3 hb3;have HB3:=Aside0.mk (below_step HB2.out hb3);have K3:=Aside0.mk hbox3;have K2a:=Aside0.mk (blk_below K2.out hb3);clear hb3 hbox3 hg3)
  | ((with_reducible refine gate_dst (N:=4) rfl ?_);refine box_event ?hg (N:=4) ?hd (cs:=#[.bool false,.string (⟨#[]⟩:ByteArray)]) (t:=43) ?hr ?_;(case hd=>rfl);(case hg=>rfl);(case hr=>first|(go_simp;done)|(go_simp;rfl));intro g4 hg4 w4 hbox4 hb4;have E4:=Aside0.mk (by rw [hg4];exact below_size HB3.out:w.heap.size≤g4);have HB4:=Aside0.mk (below_step HB3.out hb4);have K4:=Aside0.mk hbox4;have N42:=Aside0.mk (by rw [hg4];exact Nat.ne_of_gt (blk_lt K2a.out):g4≠g2);have N43:=Aside0.mk (by rw [hg4];exact Nat.ne_of_gt (blk_lt K3.out):g4≠g3);have K2b:=Aside0.mk (blk_below K2a.out hb4);have K3b:=Aside0.mk (blk_below K3.out hb4);clear hb4 hbox4 hg4)
  | ((with_reducible refine gate_dst (N:=5) rfl ?_);refine box_event ?hg (N:=5) ?hd (cs:=#[.nilFunc,.nilFunc,.nilFunc,.nilFunc]) (t:=89) ?hr ?_;(case hd=>rfl);(case hg=>rfl);(case hr=>first|(go_simp;done)|(go_simp;rfl));intro g5 hg5 w5 hbox5 hb5;have E5:=Aside0.mk (by rw [hg5];exact below_size HB4.out:w.heap.size≤g5);have N5:=Aside0.mk (by rw [hg5];exact Nat.ne_of_lt (blk_lt K2b.out):g2≠g5);have M5:=Aside0.mk (by rw [hg5];exact Nat.ne_of_lt (blk_lt K3b.out):g3≠g5);have L5:=Aside0.mk (by rw [hg5];exact Nat.ne_of_lt (blk_lt K4.out):g4≠g5);have N45:=Aside0.mk (by rw [hg5];exact Nat.ne_of_lt (blk_lt K4.out):g4≠g5);have HB5:=Aside0.mk (below_step HB4.out hb5);have K5:=Aside0.mk hbox5;have K2c:=Aside0.mk (blk_below K2b.out hb5);have K3c:=Aside0.mk (blk_below K3b.out hb5);have K4c:=Aside0.mk (blk_below K4.out hb5);clear hb5 hbox5 hg5)
  | ((with_reducible refine gate_store (t:=89) (p:=5) (v:=.tmp 8) rfl ?_);refine store_row rfl 89 (.tmp 5) (.tmp 8) rfl rfl g5 #[.func (.func 76) #[] #[],.func (.func 77) #[] #[],.func (.func 77) #[] #[],.func (.func 76) #[] #[]] rfl rfl 89 _ K5.out (by kernel_rfl) (by rfl) (by simp [Value.oneCell']) ?_;intro w6 hb6 hG6))
 have HB6:=Aside0.mk (pw_below_grown HB5.out _ HB5.out.size hG6 (fun k hk=>by injection hk with hk;rw [← hk];exact E5.out))
 have B2:=Aside0.mk ((hG6.block g2 (blk_lt K2c.out) (fun he=>N5.out (by injection he))).trans K2c.out)
 have B3:=Aside0.mk ((hG6.block g3 (blk_lt K3c.out) (fun he=>M5.out (by injection he))).trans K3c.out)
 have B4:=Aside0.mk ((hG6.block g4 (blk_lt K4c.out) (fun he=>L5.out (by injection he))).trans K4c.out)
 have B5:=Aside0.mk hb6
 clear hb6 hG6
 have N42:=Aside0.mk N42.out
 have c0:=blk_cell B2.out 0
 have c1:=blk_cell B2.out 1
 have c2:=blk_cell B3.out 0
 have c3:=blk_cell B3.out 1
 have c4:=blk_cell B5.out 0
 have c5:=blk_cell B5.out 1
 have c6:=blk_cell B5.out 2
 have c7:=blk_cell B5.out 3
 have l2:g2 < w6.heap.size:=blk_lt B2.out
 have l3:g3 < w6.heap.size:=blk_lt B3.out
 have l5:g5 < w6.heap.size:=blk_lt B5.out
 go_region_held3 (fun w'=>w'.cell? ⟨g2,0,none⟩ = some (.bool true)∧w'.cell? ⟨g2,1,none⟩ = some (.string a1)∧w'.cell? ⟨g3,0,none⟩ = some (.bool true)∧w'.cell? ⟨g3,1,none⟩ = some (.string b1)∧w'.cell? ⟨g5,0,none⟩ = some (.func (.func 76) #[] #[])∧w'.cell? ⟨g5,1,none⟩ = some (.func (.func 77) #[] #[])∧w'.cell? ⟨g5,2,none⟩ = some (.func (.func 77) #[] #[])∧w'.cell? ⟨g5,3,none⟩ = some (.func (.func 76) #[] #[]))
  (first|exact ⟨c0,c1,c2,c3,c4,c5,c6,c7⟩|exact ⟨p0,p1,p2,p3,p4,p5,p6,p7⟩|exact ⟨q0,q1,q2,q3,q4,q5,q6,q7⟩|exact ⟨r0,r1,r2,r3,r4,r5,r6,r7⟩|exact ⟨(far2 N42.out).trans r0,(far2 N42.out).trans r1,(far2 N43.out).trans r2,(far2 N43.out).trans r3,(far2 N45.out).trans r4,(far2 N45.out).trans r5,(far2 N45.out).trans r6,(far2 N45.out).trans r7⟩|exact ⟨(far1 N42.out).trans r0,(far1 N42.out).trans r1,(far1 N43.out).trans r2,(far1 N43.out).trans r3,(far1 N45.out).trans r4,(far1 N45.out).trans r5,(far1 N45.out).trans r6,(far1 N45.out).trans r7⟩)
  (first
   | (go_at_call 78;refine (integer_bit.calls true 1 _ rfl).mono ?_;rintro e wa ⟨rfl,hda⟩;have hba:=hda.below;have HBa:=Aside0.mk (below_step (below_drew1 HB6.out) hba);have p0:=(hba.cell (p:=⟨g2,0,none⟩) l2).trans c0;have p1:=(hba.cell (p:=⟨g2,1,none⟩) l2).trans c1;have p2:=(hba.cell (p:=⟨g3,0,none⟩) l3).trans c2;have p3:=(hba.cell (p:=⟨g3,1,none⟩) l3).trans c3;have p4:=(hba.cell (p:=⟨g5,0,none⟩) l5).trans c4;have p5:=(hba.cell (p:=⟨g5,1,none⟩) l5).trans c5;have p6:=(hba.cell (p:=⟨g5,2,none⟩) l5).trans c6;have p7:=(hba.cell (p:=⟨g5,3,none⟩) l5).trans c7;have l2a:=Nat.lt_of_lt_of_le l2 hba.size;have l3a:=Nat.lt_of_lt_of_le l3 hba.size;have l5a:=Nat.lt_of_lt_of_le l5 hba.size;have B4a:=Aside0.mk (blk_below (blk_drew B4.out) hba);clear hba hda)
   | (go_at_call 78;refine (integer_bit.calls true 1 _ rfl).mono ?_;rintro e wb ⟨rfl,hdb⟩;have hbb:=hdb.below;have HBb:=Aside0.mk (below_step HBa.out hbb);have q0:=(hbb.cell (p:=⟨g2,0,none⟩) l2a).trans p0;have q1:=(hbb.cell (p:=⟨g2,1,none⟩) l2a).trans p1;have q2:=(hbb.cell (p:=⟨g3,0,none⟩) l3a).trans p2;have q3:=(hbb.cell (p:=⟨g3,1,none⟩) l3a).trans p3;have q4:=(hbb.cell (p:=⟨g5,0,none⟩) l5a).trans p4;have q5:=(hbb.cell (p:=⟨g5,1,none⟩) l5a).trans p5;have q6:=(hbb.cell (p:=⟨g5,2,none⟩) l5a).trans p6;have q7:=(hbb.cell (p:=⟨g5,3,none⟩) l5a).trans p7;have l2b:=Nat.lt_of_lt_of_le l2a hbb.size;have l3b:=Nat.lt_of_lt_of_le l3a hbb.size;have l5b:=Nat.lt_of_lt_of_le l5a hbb.size;have B4b:=Aside0.mk (blk_below B4a.out hbb);clear hbb hdb)
   | (go_at_call 76;refine (HS.out _ HBb.out).mono ?_;rintro e wc ⟨rfl,hbc⟩;have HBc:=Aside0.mk (below_step HBb.out hbc);have r0:=(hbc.cell (p:=⟨g2,0,none⟩) l2b).trans q0;have r1:=(hbc.cell (p:=⟨g2,1,none⟩) l2b).trans q1;have r2:=(hbc.cell (p:=⟨g3,0,none⟩) l3b).trans q2;have r3:=(hbc.cell (p:=⟨g3,1,none⟩) l3b).trans q3;have r4:=(hbc.cell (p:=⟨g5,0,none⟩) l5b).trans q4;have r5:=(hbc.cell (p:=⟨g5,1,none⟩) l5b).trans q5;have r6:=(hbc.cell (p:=⟨g5,2,none⟩) l5b).trans q6;have r7:=(hbc.cell (p:=⟨g5,3,none⟩) l5b).trans q7;have B4c:=Aside0.mk (blk_below B4b.out hbc);have d0:=blk_cell B4c.out 0;have d1:=blk_cell B4c.out 1;have z0:=blk_frozen B4c.out 0;have z1:=blk_frozen B4c.out 1;clear hbc))
 go_wp2
 refine bodyPost_ret (results_cell_row rfl _ _ g4 43 #[.bool r.1,.string r.2] (0,0) _ rfl (blk_put (cs:=#[.bool r.1,.string (⟨#[]⟩:ByteArray)]) (blk_put (cs:=#[.bool false,.string (⟨#[]⟩:ByteArray)]) B4c.out 0 _ rfl) 1 _ rfl) Tryz.underlying43 rfl (by kernel_rfl)) rfl ?_
 exact ⟨rfl,below_set (below_set HBc.out E4.out) E4.out⟩
theorem integer_number_plus.calls (a0_0:Bool) (a0_1:ByteArray) (a1_0:Bool) (a1_1:ByteArray) (r1:Bool) (r2:ByteArray) (w:World) (hL:LaidW w) (h:integer_number_plus.f a0_0 a0_1 a1_0 a1_1 = some (r1,r2)) :
  Calls Tryz.prog 52 #[.agg #[.bool a0_0,.string a0_1],.agg #[.bool a1_0,.string a1_1]] w fun e w'=>e = .returned (.agg #[.bool r1,.string r2])∧Below w.heap.size w w':=by
 unfold integer_number_plus.f at h
 by_cases hc:(nv a0_1 && nv a1_1) = true∧Sh a0_1∧Sh a1_1
 case neg=>rw [if_neg hc] at h;cases h
 rw [if_pos hc] at h
 obtain ⟨hv,ha,hb⟩:=hc
 obtain ⟨h1,h2⟩:=Bool.and_eq_true_iff.1 hv
 have e1:=num_nat h1
 have e2:=num_nat h2
 rw [← e1] at ha
 rw [← e2] at hb
 have hr:=Option.some.inj h
 have hsum:∀ b:Bool,a0_0 = b→a1_0 = b→∀ W,Below w.heap.size w W→Calls Tryz.prog 76 #[.agg #[.bool b,.string a0_1],.agg #[.bool b,.string a1_1]] W fun e W'=>e = .returned (.agg #[.bool r1,.string r2])∧Below W.heap.size W W':=fun b e0 e3 W hW=>by
  have hs:=sum_eq b ha hb
  have hr':=hr
  rw [e0,e3] at hr'
  rw [e1,e2,hr'] at hs
  exact integer_sum.calls b a0_1 b a1_1 r1 r2 W (hL.below hW) hs
 have hdif:∀ b:Bool,a0_0 = b→a1_0 = (!b)→∀ W,Below w.heap.size w W→Calls Tryz.prog 77 #[.agg #[.bool b,.string a0_1],.agg #[.bool (!b),.string a1_1]] W fun e W'=>e = .returned (.agg #[.bool r1,.string r2])∧Below W.heap.size W W':=fun b e0 e3 W hW=>by
  obtain ⟨k,hs⟩:=(diff_ev b ha hb).rounds
  have hr':=hr
  rw [e0,e3] at hr'
  rw [e1,e2,hr'] at hs
  exact integer_difference.calls k b a0_1 (!b) a1_1 r1 r2 W (hL.below hW) hs
 cases a0_0 with
 | false =>
  cases a1_0 with
  | false=>exact plus_ff a0_1 a1_1 (r1,r2) w (hsum false rfl rfl)
  | true=>exact plus_ft a0_1 a1_1 (r1,r2) w (hdif false rfl rfl)
 | true =>
  cases a1_0 with
  | false=>exact plus_tf a0_1 a1_1 (r1,r2) w (hdif true rfl rfl)
  | true=>exact plus_tt a0_1 a1_1 (r1,r2) w (hsum true rfl rfl)
end Go.Proofs.YtaknchlegjcdhaaGreatDoor.Pr
namespace Go.Proofs.YtaknchlegjcdhaaGreatDoor.Pr
open Go.RowKit Go.Proofs.YtaknchlegjcdhaaGreatDoorW.PrintWords Go.Proofs.YtaknchlegjcdhaaGreatDoorW.PrintLast Go.Proofs.YtaknchlegjcdhaaGreatDoorW.PrintMore
attribute [local go_sem] max2_int min2_int max_two min_two max_three min_three max_four min_four
set_option linter.unusedVariables false
set_option linter.unusedSimpArgs false
def integer_Compare.f (k:Nat) (a0:ByteArray) (a1:ByteArray):Option (Int × Int):=(integer_both.f k a0 a1).bind fun bt252=>((integer_number_opposite.f bt252.2.2.1 bt252.2.2.2.1).bind fun bt259=>((integer_number_plus.f bt252.1 bt252.2.1 bt259.1 bt259.2).bind fun bt261=>((integer_number_sign.f bt261.1 bt261.2).bind fun t263=>(some (t263,bt252.2.2.2.2)))))
theorem integer_Compare.mono:∀ a0 a1 k,LeO (integer_Compare.f k a0 a1) (integer_Compare.f (k + 1) a0 a1):=by
 intro a0 a1 k
 unfold integer_Compare.f
 repeat' first
   | (with_reducible exact integer_both.mono _ _ _)
   | (with_reducible exact LeO.refl _)
   | (with_reducible exact LeO.none _)
   | (with_reducible refine LeO.ite ?_ ?_)
   | (with_reducible refine LeO.bind ?_ (fun _=>?_))
   | exact integer_both.mono _ _ _
   | exact LeO.none _
   | refine LeO.ite ?_ ?_
   | refine LeO.bind ?_ (fun _=>?_)
def integer_Compare.T2:Bool × List (List Nat × List Nat):=(true,[([],[]),([],[]),([1],[1]),([0,2,2],[0,2]),([3,3],[3]),([],[]),([4,4,0,1,2,3,4],[4]),([5,6,0,1,2,3,4,5,6],[5])])
def integer_Compare.B2:List Nat:=[0,0,2,7,15,0,31,127]
theorem integer_Compare.tab2:rtab .any (opsOf Tryz.f22 2) = integer_Compare.T2:=by kernel_rfl
theorem integer_Compare.bits2:waitsOk integer_Compare.T2.2 integer_Compare.B2 = true:=by kernel_rfl
set_option maxHeartbeats 8000000 in
set_option maxRecDepth 100000 in
theorem integer_Compare.calls (k:Nat) (a0:ByteArray) (a1:ByteArray) (r1:Int) (r2:Int) (w:World) (hL:LaidW w) (h:integer_Compare.f k a0 a1 = some (r1,r2)) :
  Calls Tryz.prog 22 #[.string a0,.string a1] w fun e w'=>e = .returned (.tuple #[.int .i64 r1,.int .i64 r2])∧Below w.heap.size w w':=by
 have hu43:=Tryz.underlying43
 have HB:=Aside0.mk (Below.refl w.heap.size w)
 have HLW:=Aside0.mk hL
 clear hL
 have H:((integer_both.f k a0 a1).bind fun bt252=>((integer_number_opposite.f bt252.2.2.1 bt252.2.2.2.1).bind fun bt259=>((integer_number_plus.f bt252.1 bt252.2.1 bt259.1 bt259.2).bind fun bt261=>((integer_number_sign.f bt261.1 bt261.2).bind fun t263=>(some (t263,bt252.2.2.2.2)))))) = some (r1,r2):=h
 clear h
 replace H:=Option.bind_eq_some_iff.mp H
 obtain ⟨⟨t252,t253,t254,t255,t256⟩,A30,H⟩:=H
 replace H:((integer_number_opposite.f t254 t255).bind fun bt259=>((integer_number_plus.f t252 t253 bt259.1 bt259.2).bind fun bt261=>((integer_number_sign.f bt261.1 bt261.2).bind fun t263=>(some (t263,t256))))) = some (r1,r2):=H
 have A3:=Aside0.mk A30
 clear A30
 replace H:=Option.bind_eq_some_iff.mp H
 obtain ⟨⟨t259,t260⟩,A40,H⟩:=H
 replace H:((integer_number_plus.f t252 t253 t259 t260).bind fun bt261=>((integer_number_sign.f bt261.1 bt261.2).bind fun t263=>(some (t263,t256)))) = some (r1,r2):=H
 have A4:=Aside0.mk A40
 clear A40
 replace H:=Option.bind_eq_some_iff.mp H
 obtain ⟨⟨t261,t262⟩,A50,H⟩:=H
 replace H:((integer_number_sign.f t261 t262).bind fun t263=>(some (t263,t256))) = some (r1,r2):=H
 have A5:=Aside0.mk A50
 clear A50
 replace H:=Option.bind_eq_some_iff.mp H
 obtain ⟨t263,A60,H⟩:=H
 replace H:(some (t263,t256)) = some (r1,r2):=H
 have A6:=Aside0.mk A60
 clear A60
 simp only [Option.some.injEq,Prod.mk.injEq] at H
 obtain ⟨rfl,rfl⟩:=H
 go_enter Tryz.func22,Tryz.ntmps22
 try go_wp2_with (first|((with_reducible refine gate_callee (f:=51) rfl ?_);refine goesL_ (some 12) rfl rfl Tryz.func51 (by kernel_rfl) rfl #[.string a0,.string a1] rfl (by (try simp only [List.map_toArray,List.map_cons,List.map_nil]);first|done|rfl|(simp only [List.length_drop,List.length_take];rfl)) ?_;(with_reducible refine (integer_both.calls k a0 a1 t252 t253 t254 t255 t256 _ A3.out).mono ?_);rintro e w7 ⟨rfl,hb⟩;refine ⟨_,rfl,?_⟩;have n0_:=Aside0.mk (below_step (by repeat (first|(with_reducible first|exact HB.out|apply below_alloc|apply pw_below_drewN|apply below_drew1)|exact HB.out)) hb);clear HB;have HB:=n0_;clear n0_;(try clear hb);(try clear hb2);(try clear hk);(try clear hi))|((with_reducible refine gate_dst (N:=6) rfl ?_);refine box_event ?hg (N:=6) ?hd (cs:=#[.bool false,.string (⟨#[]⟩:ByteArray)]) (t:=43) ?hr ?_;(case hd=>rfl);(case hg=>rfl);(case hr=>first|(go_simp;done)|(go_simp;rfl));intro gb257 hg w8 hbox hb;have n0_:=Aside0.mk (below_step (by repeat (first|(with_reducible first|exact HB.out|apply below_alloc|apply pw_below_drewN|apply below_drew1)|exact HB.out)) hb);have n1_:=Aside0.mk (hbox);have n2_:=Aside0.mk ((by rw [hg];exact (below_size (by repeat (first|(with_reducible first|exact HB.out|apply below_alloc|apply pw_below_drewN|apply below_drew1)|exact HB.out))):w.heap.size≤gb257));have n3_:=Aside0.mk ((by rw [hg];exact (below_size (by repeat (first|(with_reducible first|exact HB.out|apply below_alloc|apply pw_below_drewN|apply below_drew1)|exact HB.out))):w.heap.size≤gb257));clear HB;have HB:=n0_;have BK257:=n1_;have GW257:=n2_;have GE257:=n3_;clear n0_ n1_ n2_ n3_;clear hb hbox hg)|((with_reducible refine gate_dst (N:=7) rfl ?_);refine box_event ?hg (N:=7) ?hd (cs:=#[.bool false,.string (⟨#[]⟩:ByteArray)]) (t:=43) ?hr ?_;(case hd=>rfl);(case hg=>rfl);(case hr=>first|(go_simp;done)|(go_simp;rfl));intro gb258 hg w9 hbox hb;have n0_:=Aside0.mk (blk_below (g:=gb257) (o:=.cells #[.bool false,.string (⟨#[]⟩:ByteArray)] 43 (0,0)) (by (with_reducible repeat (first|refine blk_drewN ?_ _|refine blk_drew ?_|refine blk_alloc ?_ _));exact BK257.out) hb);have n1_:=Aside0.mk (below_step (by repeat (first|(with_reducible first|exact HB.out|apply below_alloc|apply pw_below_drewN|apply below_drew1|refine below_set ?_ GE257.out)|exact HB.out)) hb);have n2_:=Aside0.mk (hbox);have n3_:=Aside0.mk ((by rw [hg];exact (below_size (by repeat (first|(with_reducible first|exact HB.out|apply below_alloc|apply pw_below_drewN|apply below_drew1|refine below_set ?_ GE257.out)|exact HB.out))):w.heap.size≤gb258));have n4_:=Aside0.mk ((by rw [hg];exact (below_size (by repeat (first|(with_reducible first|exact HB.out|apply below_alloc|apply pw_below_drewN|apply below_drew1|refine below_set ?_ GE257.out)|exact HB.out))):w.heap.size≤gb258));have n5_:=Aside0.mk ((by rw [hg];exact Nat.ne_of_lt (blk_lt (g:=gb257) (o:=.cells #[.bool false,.string (⟨#[]⟩:ByteArray)] 43 (0,0)) (by (with_reducible repeat (first|refine blk_drewN ?_ _|refine blk_drew ?_|refine blk_alloc ?_ _));exact BK257.out)):gb257≠gb258));have n6_:=Aside0.mk ((by rw [hg];exact Nat.ne_of_gt (blk_lt (g:=gb257) (o:=.cells #[.bool false,.string (⟨#[]⟩:ByteArray)] 43 (0,0)) (by (with_reducible repeat (first|refine blk_drewN ?_ _|refine blk_drew ?_|refine blk_alloc ?_ _));exact BK257.out)):gb258≠gb257));clear BK257;clear HB;have BK257:=n0_;have HB:=n1_;have BK258:=n2_;have GW258:=n3_;have GE258:=n4_;have NB257_258:=n5_;have NB258_257:=n6_;clear n0_ n1_ n2_ n3_ n4_ n5_ n6_;clear hb hbox hg;have hnb10:=NB257_258.out;have hnc10:=NB258_257.out;have hcz11_0:w9.cell? ⟨gb257,0,none⟩ = some (.bool false):=(blk_cell BK257.out 0).trans rfl;have hcz11_1:w9.cell? ⟨gb257,1,none⟩ = some (.string (⟨#[]⟩:ByteArray)):=(blk_cell BK257.out 1).trans rfl;have hfz11_0:=blk_frozen BK257.out 0;have hfz11_1:=blk_frozen BK257.out 1;have hcz12_0:w9.cell? ⟨gb258,0,none⟩ = some (.bool false):=(blk_cell BK258.out 0).trans rfl;have hcz12_1:w9.cell? ⟨gb258,1,none⟩ = some (.string (⟨#[]⟩:ByteArray)):=(blk_cell BK258.out 1).trans rfl;have hfz12_0:=blk_frozen BK258.out 0;have hfz12_1:=blk_frozen BK258.out 1))
 have n0_:Aside0 (((((w9.setCell ⟨gb257,0,none⟩ (.bool t252)).setCell ⟨gb257,1,none⟩ (.string t253)).setCell ⟨gb258,0,none⟩ (.bool t254)).setCell ⟨gb258,1,none⟩ (.string t255)).heap[gb257]? = some (.cells #[.bool t252,.string t253] 43 (0,0))):=⟨by (with_reducible repeat (first|refine blk_drewN ?_ _|refine blk_drew ?_|refine blk_alloc ?_ _));refine blk_far ?_ NB257_258.out _;(with_reducible repeat (first|refine blk_drewN ?_ _|refine blk_drew ?_|refine blk_alloc ?_ _));refine blk_far ?_ NB257_258.out _;(with_reducible repeat (first|refine blk_drewN ?_ _|refine blk_drew ?_|refine blk_alloc ?_ _));refine blk_put (cs:=#[.bool t252,.string (⟨#[]⟩:ByteArray)]) ?_ 1 _ rfl;(with_reducible repeat (first|refine blk_drewN ?_ _|refine blk_drew ?_|refine blk_alloc ?_ _));refine blk_put (cs:=#[.bool false,.string (⟨#[]⟩:ByteArray)]) ?_ 0 _ rfl;(with_reducible repeat (first|refine blk_drewN ?_ _|refine blk_drew ?_|refine blk_alloc ?_ _));exact BK257.out⟩
 have n1_:Aside0 (((((w9.setCell ⟨gb257,0,none⟩ (.bool t252)).setCell ⟨gb257,1,none⟩ (.string t253)).setCell ⟨gb258,0,none⟩ (.bool t254)).setCell ⟨gb258,1,none⟩ (.string t255)).heap[gb258]? = some (.cells #[.bool t254,.string t255] 43 (0,0))):=⟨by (with_reducible repeat (first|refine blk_drewN ?_ _|refine blk_drew ?_|refine blk_alloc ?_ _));refine blk_put (cs:=#[.bool t254,.string (⟨#[]⟩:ByteArray)]) ?_ 1 _ rfl;(with_reducible repeat (first|refine blk_drewN ?_ _|refine blk_drew ?_|refine blk_alloc ?_ _));refine blk_put (cs:=#[.bool false,.string (⟨#[]⟩:ByteArray)]) ?_ 0 _ rfl;(with_reducible repeat (first|refine blk_drewN ?_ _|refine blk_drew ?_|refine blk_alloc ?_ _));refine blk_far ?_ NB258_257.out _;(with_reducible repeat (first|refine blk_drewN ?_ _|refine blk_drew ?_|refine blk_alloc ?_ _));refine blk_far ?_ NB258_257.out _;(with_reducible repeat (first|refine blk_drewN ?_ _|refine blk_drew ?_|refine blk_alloc ?_ _));exact BK258.out⟩
 have n2_:Aside0 (Below w.heap.size w ((((w9.setCell ⟨gb257,0,none⟩ (.bool t252)).setCell ⟨gb257,1,none⟩ (.string t253)).setCell ⟨gb258,0,none⟩ (.bool t254)).setCell ⟨gb258,1,none⟩ (.string t255))):=⟨by repeat (first|(with_reducible first|exact HB.out|apply below_alloc|apply pw_below_drewN|apply below_drew1|refine below_set ?_ GE257.out|refine below_set ?_ GE258.out)|exact HB.out)⟩
 (try clear BK257)
 (try clear BK258)
 (try clear HB)
 generalize ((((w9.setCell ⟨gb257,0,none⟩ (.bool t252)).setCell ⟨gb257,1,none⟩ (.string t253)).setCell ⟨gb258,0,none⟩ (.bool t254)).setCell ⟨gb258,1,none⟩ (.string t255)) = w13 at n0_ n1_ n2_ ⊢
 have BK257:=n0_
 have BK258:=n1_
 have HB:=n2_
 clear n0_ n1_ n2_
 have n0_:=Aside0.mk (blk_drew BK257.out)
 have n1_:=Aside0.mk (blk_drew BK258.out)
 have n2_:=Aside0.mk (below_drew1 HB.out)
 clear BK257
 clear BK258
 clear HB
 have BK257:=n0_
 have BK258:=n1_
 have HB:=n2_
 clear n0_ n1_ n2_
 refine start_ (n:=8) (S:=fun w'=>w'.cell? ⟨gb257,0,none⟩ = some (.bool t252)∧w'.cell? ⟨gb257,1,none⟩ = some (.string t253)∧w'.cell? ⟨gb258,0,none⟩ = some (.bool t254)∧w'.cell? ⟨gb258,1,none⟩ = some (.string t255)) (ds:=[]) #[false,false,false,false,false,false,false,false] (by kernel_rfl) rfl rfl ⟨(blk_cell BK257.out 0).trans rfl,(blk_cell BK257.out 1).trans rfl,(blk_cell BK258.out 0).trans rfl,(blk_cell BK258.out 1).trans rfl⟩ (fun hHeld=>?_);refine with_tabW integer_Compare.tab2 integer_Compare.bits2 (fun HT_ HW_=>?_)
 generalize w13.drew = w14 at BK257 BK258 HB hHeld ⊢
 refine pure_ (i:=5) (N:=some 21) (v:=?_) (a':=?_) #[false,false,false,false,false,true,false,false] rfl rfl (any_of HT_.out (by kernel_rfl)) (fun _ _ _ h=>h) (Or.inl ⟨by rfl,?_⟩) ?_ ?_
 rotate_left
 ·intro w'
  go_simp
  with_reducible rfl
 rotate_left
 ·simp only [Act.put,List.setIfInBounds_toArray,List.set_cons_zero,List.set_cons_succ,i64_w,i32_w]
  rfl
 refine take_ (i:=0) (N:=some 16) (v:=?_) (a':=?_) #[true,false,false,false,false,true,false,false] rfl rfl (take_ofW HT_.out HW_.out (by kernel_rfl)) (fun _ _ _ h=>h) (Or.inl ⟨by rfl,?_⟩) hHeld ?_ ?_
 rotate_left
 ·rintro w' ⟨s0,s1,s2,s3⟩
  go_simp
  with_reducible rfl
 rotate_left
 ·simp only [Act.put,List.setIfInBounds_toArray,List.set_cons_zero,List.set_cons_succ,i64_w,i32_w]
  rfl
 refine take_ (i:=1) (N:=some 17) (v:=?_) (a':=?_) #[true,true,false,false,false,true,false,false] rfl rfl (take_ofW HT_.out HW_.out (by kernel_rfl)) (fun _ _ _ h=>h) (Or.inl ⟨by rfl,?_⟩) hHeld ?_ ?_
 rotate_left
 ·rintro w' ⟨s0,s1,s2,s3⟩
  go_simp
  with_reducible rfl
 rotate_left
 ·simp only [Act.put,List.setIfInBounds_toArray,List.set_cons_zero,List.set_cons_succ,i64_w,i32_w]
  rfl
 refine one_ (i:=2) (N:=some 18) #[true,true,true,false,false,true,false,false] rfl rfl (one_of HT_.out (by kernel_rfl)) (by decide) (fun K hK=>?_)
 refine goes_ Tryz.func45 (by kernel_rfl) rfl #[.agg #[.bool t254,.string t255]] (by rfl) rfl rfl (by (try simp only [List.map_toArray,List.map_cons,List.map_nil]);first|done|rfl|(simp only [List.length_drop,List.length_take];rfl)) ?_
 with_reducible refine (integer_number_opposite.calls t254 t255 t259 t260 _ A4.out).mono ?_
 rintro e w15 ⟨rfl,hb⟩
 refine ⟨_,rfl,?_⟩
 have n0_:=Aside0.mk (blk_below (g:=gb257) (o:=.cells #[.bool t252,.string t253] 43 (0,0)) (by (with_reducible repeat (first|refine blk_drewN ?_ _|refine blk_drew ?_|refine blk_alloc ?_ _));exact BK257.out) hb)
 have n1_:=Aside0.mk (blk_below (g:=gb258) (o:=.cells #[.bool t254,.string t255] 43 (0,0)) (by (with_reducible repeat (first|refine blk_drewN ?_ _|refine blk_drew ?_|refine blk_alloc ?_ _));exact BK258.out) hb)
 have n2_:=Aside0.mk (below_step (by repeat (first|(with_reducible first|exact HB.out|apply below_alloc|apply pw_below_drewN|apply below_drew1|refine below_set ?_ GE257.out|refine below_set ?_ GE258.out)|exact HB.out)) hb)
 clear BK257
 clear BK258
 clear HB
 have BK257:=n0_
 have BK258:=n1_
 have HB:=n2_
 clear n0_ n1_ n2_
 (try clear hb)
 (try clear hb2)
 (try clear hk)
 (try clear hi)
 refine hK.out _ _ ⟨(blk_cell BK257.out 0).trans rfl,(blk_cell BK257.out 1).trans rfl,(blk_cell BK258.out 0).trans rfl,(blk_cell BK258.out 1).trans rfl⟩ (fun hHeld=>?_)
 clear hK K
 refine norm_ (a':=?_) ?_ ?_
 rotate_left
 ·show Act.put _ (some 18) _ = _
  simp only [Act.put,List.setIfInBounds_toArray,List.set_cons_zero,List.set_cons_succ,i64_w,i32_w]
  rfl
 refine one_ (i:=3) (N:=some 19) #[true,true,true,true,false,true,false,false] rfl rfl (one_of HT_.out (by kernel_rfl)) (by decide) (fun K hK=>?_)
 refine goes_ Tryz.func52 (by kernel_rfl) rfl #[.agg #[.bool t252,.string t253],.agg #[.bool t259,.string t260]] (by rfl) rfl rfl (by (try simp only [List.map_toArray,List.map_cons,List.map_nil]);first|done|rfl|(simp only [List.length_drop,List.length_take];rfl)) ?_
 with_reducible refine (integer_number_plus.calls t252 t253 t259 t260 t261 t262 _ ?side1 A5.out).mono ?_
 (case side1=>exact HLW.out.below (by repeat (first|(with_reducible first|exact HB.out|apply below_alloc|apply pw_below_drewN|apply below_drew1|refine below_set ?_ GE257.out|refine below_set ?_ GE258.out)|exact HB.out)))
 rintro e w16 ⟨rfl,hb⟩
 refine ⟨_,rfl,?_⟩
 have n0_:=Aside0.mk (blk_below (g:=gb257) (o:=.cells #[.bool t252,.string t253] 43 (0,0)) (by (with_reducible repeat (first|refine blk_drewN ?_ _|refine blk_drew ?_|refine blk_alloc ?_ _));exact BK257.out) hb)
 have n1_:=Aside0.mk (blk_below (g:=gb258) (o:=.cells #[.bool t254,.string t255] 43 (0,0)) (by (with_reducible repeat (first|refine blk_drewN ?_ _|refine blk_drew ?_|refine blk_alloc ?_ _));exact BK258.out) hb)
 have n2_:=Aside0.mk (below_step (by repeat (first|(with_reducible first|exact HB.out|apply below_alloc|apply pw_below_drewN|apply below_drew1|refine below_set ?_ GE257.out|refine below_set ?_ GE258.out)|exact HB.out)) hb)
 clear BK257
 clear BK258
 clear HB
 have BK257:=n0_
 have BK258:=n1_
 have HB:=n2_
 clear n0_ n1_ n2_
 (try clear hb)
 (try clear hb2)
 (try clear hk)
 (try clear hi)
 refine hK.out _ _ ⟨(blk_cell BK257.out 0).trans rfl,(blk_cell BK257.out 1).trans rfl,(blk_cell BK258.out 0).trans rfl,(blk_cell BK258.out 1).trans rfl⟩ (fun hHeld=>?_)
 clear hK K
 refine norm_ (a':=?_) ?_ ?_
 rotate_left
 ·show Act.put _ (some 19) _ = _
  simp only [Act.put,List.setIfInBounds_toArray,List.set_cons_zero,List.set_cons_succ,i64_w,i32_w]
  rfl
 refine one_ (i:=4) (N:=some 20) #[true,true,true,true,true,true,false,false] rfl rfl (one_of HT_.out (by kernel_rfl)) (by decide) (fun K hK=>?_)
 refine goes_ Tryz.func40 (by kernel_rfl) rfl #[.agg #[.bool t261,.string t262]] (by rfl) rfl rfl (by (try simp only [List.map_toArray,List.map_cons,List.map_nil]);first|done|rfl|(simp only [List.length_drop,List.length_take];rfl)) ?_
 with_reducible refine (integer_number_sign.calls t261 t262 t263 _ A6.out).mono ?_
 rintro e w17 ⟨rfl,hb⟩
 refine ⟨_,rfl,?_⟩
 have n0_:=Aside0.mk (blk_below (g:=gb257) (o:=.cells #[.bool t252,.string t253] 43 (0,0)) (by (with_reducible repeat (first|refine blk_drewN ?_ _|refine blk_drew ?_|refine blk_alloc ?_ _));exact BK257.out) hb)
 have n1_:=Aside0.mk (blk_below (g:=gb258) (o:=.cells #[.bool t254,.string t255] 43 (0,0)) (by (with_reducible repeat (first|refine blk_drewN ?_ _|refine blk_drew ?_|refine blk_alloc ?_ _));exact BK258.out) hb)
 have n2_:=Aside0.mk (below_step (by repeat (first|(with_reducible first|exact HB.out|apply below_alloc|apply pw_below_drewN|apply below_drew1|refine below_set ?_ GE257.out|refine below_set ?_ GE258.out)|exact HB.out)) hb)
 clear BK257
 clear BK258
 clear HB
 have BK257:=n0_
 have BK258:=n1_
 have HB:=n2_
 clear n0_ n1_ n2_
 (try clear hb)
 (try clear hb2)
 (try clear hk)
 (try clear hi)
 refine hK.out _ _ ⟨(blk_cell BK257.out 0).trans rfl,(blk_cell BK257.out 1).trans rfl,(blk_cell BK258.out 0).trans rfl,(blk_cell BK258.out 1).trans rfl⟩ (fun hHeld=>?_)
 clear hK K
 refine norm_ (a':=?_) ?_ ?_
 rotate_left
 ·show Act.put _ (some 20) _ = _
  simp only [Act.put,List.setIfInBounds_toArray,List.set_cons_zero,List.set_cons_succ,i64_w,i32_w]
  rfl
 refine pure_ (i:=6) (N:=some 4) (v:=?_) (a':=?_) #[true,true,true,true,true,true,true,false] rfl rfl (any_of HT_.out (by kernel_rfl)) (fun _ _ _ h=>h) (Or.inl ⟨by rfl,?_⟩) ?_ ?_
 rotate_left
 ·intro w'
  go_simp
  with_reducible rfl
 rotate_left
 ·simp only [Act.put,List.setIfInBounds_toArray,List.set_cons_zero,List.set_cons_succ,i64_w,i32_w]
  rfl
 refine pure_ (i:=7) (N:=some 5) (v:=?_) (a':=?_) #[true,true,true,true,true,true,true,true] rfl rfl (any_of HT_.out (by kernel_rfl)) (fun _ _ _ h=>h) (Or.inl ⟨by rfl,?_⟩) ?_ ?_
 rotate_left
 ·intro w'
  go_simp
  with_reducible rfl
 rotate_left
 ·simp only [Act.put,List.setIfInBounds_toArray,List.set_cons_zero,List.set_cons_succ,i64_w,i32_w]
  rfl
 refine done_ (done_of HT_.out (by kernel_rfl)) ?_
 try go_wp2
 go_ret2
 exact ⟨by first|rfl|(simp [errW_none,errW_some]<;>rfl)|(simp [*,errW_none,errW_some]<;>rfl),by repeat (first|(with_reducible first|exact HB.out|apply below_alloc|apply pw_below_drewN|apply below_drew1|refine below_set ?_ GE257.out|refine below_set ?_ GE258.out)|exact HB.out)⟩
end Go.Proofs.YtaknchlegjcdhaaGreatDoor.Pr
namespace Go.Proofs.YtaknchlegjcdhaaGreatDoor.Pr
open Go.RowKit Go.Proofs.YtaknchlegjcdhaaGreatDoorW.PrintWords Go.Proofs.YtaknchlegjcdhaaGreatDoorW.PrintLast Go.Proofs.YtaknchlegjcdhaaGreatDoorW.PrintMore
attribute [local go_sem] max2_int min2_int max_two min_two max_three min_three max_four min_four
set_option linter.unusedVariables false
set_option linter.unusedSimpArgs false
def integer_Add.f (k:Nat) (a0:ByteArray) (a1:ByteArray):Option (ByteArray × Int):=(integer_both.f k a0 a1).bind fun bt264=>(if bt264.2.2.2.2 = 0 then ((integer_number_plus.f bt264.1 bt264.2.1 bt264.2.2.1 bt264.2.2.2.1).bind fun bt271=>((integer_number_text.f bt271.1 bt271.2).bind fun t273=>(some (t273,0)))) else (some ((⟨#[]⟩:ByteArray),bt264.2.2.2.2)))
theorem integer_Add.mono:∀ a0 a1 k,LeO (integer_Add.f k a0 a1) (integer_Add.f (k + 1) a0 a1):=by
 intro a0 a1 k
 unfold integer_Add.f
 repeat' first
   | (with_reducible exact integer_both.mono _ _ _)
   | (with_reducible exact LeO.refl _)
   | (with_reducible exact LeO.none _)
   | (with_reducible refine LeO.ite ?_ ?_)
   | (with_reducible refine LeO.bind ?_ (fun _=>?_))
   | exact integer_both.mono _ _ _
   | exact LeO.none _
   | refine LeO.ite ?_ ?_
   | refine LeO.bind ?_ (fun _=>?_)
set_option maxHeartbeats 8000000 in
set_option maxRecDepth 100000 in
theorem integer_Add.calls (k:Nat) (a0:ByteArray) (a1:ByteArray) (r1:ByteArray) (r2:Int) (w:World) (hL:LaidW w) (h:integer_Add.f k a0 a1 = some (r1,r2)) :
  Calls Tryz.prog 24 #[.string a0,.string a1] w fun e w'=>e = .returned (.tuple #[.string r1,.int .i64 r2])∧Below w.heap.size w w':=by
 have hu43:=Tryz.underlying43
 have HB:=Aside0.mk (Below.refl w.heap.size w)
 have HLW:=Aside0.mk hL
 clear hL
 have H:((integer_both.f k a0 a1).bind fun bt264=>(if bt264.2.2.2.2 = 0 then ((integer_number_plus.f bt264.1 bt264.2.1 bt264.2.2.1 bt264.2.2.2.1).bind fun bt271=>((integer_number_text.f bt271.1 bt271.2).bind fun t273=>(some (t273,0)))) else (some ((⟨#[]⟩:ByteArray),bt264.2.2.2.2)))) = some (r1,r2):=h
 clear h
 replace H:=Option.bind_eq_some_iff.mp H
 obtain ⟨⟨t264,t265,t266,t267,t268⟩,A30,H⟩:=H
 replace H:(if t268 = 0 then ((integer_number_plus.f t264 t265 t266 t267).bind fun bt271=>((integer_number_text.f bt271.1 bt271.2).bind fun t273=>(some (t273,0)))) else (some ((⟨#[]⟩:ByteArray),t268))) = some (r1,r2):=H
 have A3:=Aside0.mk A30
 clear A30
 by_cases c4:t268 = 0
 ·rw [if_pos c4] at H
  have c4b0:(t268 == 0) = true:=beq_iff_eq.mpr c4
  have c4b1:(t268 != 0) = false:=bne_eq_false_iff_eq.mpr c4
  clear c4
  replace H:=Option.bind_eq_some_iff.mp H
  obtain ⟨⟨t271,t272⟩,A50,H⟩:=H
  replace H:((integer_number_text.f t271 t272).bind fun t273=>(some (t273,0))) = some (r1,r2):=H
  have A5:=Aside0.mk A50
  clear A50
  replace H:=Option.bind_eq_some_iff.mp H
  obtain ⟨t273,A60,H⟩:=H
  replace H:(some (t273,0)) = some (r1,r2):=H
  have A6:=Aside0.mk A60
  clear A60
  simp only [Option.some.injEq,Prod.mk.injEq] at H
  obtain ⟨rfl,rfl⟩:=H
  go_enter Tryz.func24,Tryz.ntmps24
  go_wp2_with (first|((with_reducible refine gate_callee (f:=51) rfl ?_);refine goesL_ (some 12) rfl rfl Tryz.func51 (by kernel_rfl) rfl #[.string a0,.string a1] rfl (by (try simp only [List.map_toArray,List.map_cons,List.map_nil]);first|done|rfl|(simp only [List.length_drop,List.length_take];rfl)) ?_;(with_reducible refine (integer_both.calls k a0 a1 t264 t265 t266 t267 t268 _ A3.out).mono ?_);rintro e w7 ⟨rfl,hb⟩;refine ⟨_,rfl,?_⟩;have n0_:=Aside0.mk (below_step (by repeat (first|(with_reducible first|exact HB.out|apply below_alloc|apply pw_below_drewN|apply below_drew1)|exact HB.out)) hb);clear HB;have HB:=n0_;clear n0_;(try clear hb);(try clear hb2);(try clear hk);(try clear hi))|((with_reducible refine gate_dst (N:=6) rfl ?_);refine box_event ?hg (N:=6) ?hd (cs:=#[.bool false,.string (⟨#[]⟩:ByteArray)]) (t:=43) ?hr ?_;(case hd=>rfl);(case hg=>rfl);(case hr=>first|(go_simp;done)|(go_simp;rfl));intro gb269 hg w8 hbox hb;have n0_:=Aside0.mk (below_step (by repeat (first|(with_reducible first|exact HB.out|apply below_alloc|apply pw_below_drewN|apply below_drew1)|exact HB.out)) hb);have n1_:=Aside0.mk (hbox);have n2_:=Aside0.mk ((by rw [hg];exact (below_size (by repeat (first|(with_reducible first|exact HB.out|apply below_alloc|apply pw_below_drewN|apply below_drew1)|exact HB.out))):w.heap.size≤gb269));have n3_:=Aside0.mk ((by rw [hg];exact (below_size (by repeat (first|(with_reducible first|exact HB.out|apply below_alloc|apply pw_below_drewN|apply below_drew1)|exact HB.out))):w.heap.size≤gb269));clear HB;have HB:=n0_;have BK269:=n1_;have GW269:=n2_;have GE269:=n3_;clear n0_ n1_ n2_ n3_;clear hb hbox hg)|((with_reducible refine gate_dst (N:=7) rfl ?_);refine box_event ?hg (N:=7) ?hd (cs:=#[.bool false,.string (⟨#[]⟩:ByteArray)]) (t:=43) ?hr ?_;(case hd=>rfl);(case hg=>rfl);(case hr=>first|(go_simp;done)|(go_simp;rfl));intro gb270 hg w9 hbox hb;have n0_:=Aside0.mk (blk_below (g:=gb269) (o:=.cells #[.bool false,.string (⟨#[]⟩:ByteArray)] 43 (0,0)) (by (with_reducible repeat (first|refine blk_drewN ?_ _|refine blk_drew ?_|refine blk_alloc ?_ _));exact BK269.out) hb);have n1_:=Aside0.mk (below_step (by repeat (first|(with_reducible first|exact HB.out|apply below_alloc|apply pw_below_drewN|apply below_drew1|refine below_set ?_ GE269.out)|exact HB.out)) hb);have n2_:=Aside0.mk (hbox);have n3_:=Aside0.mk ((by rw [hg];exact (below_size (by repeat (first|(with_reducible first|exact HB.out|apply below_alloc|apply pw_below_drewN|apply below_drew1|refine below_set ?_ GE269.out)|exact HB.out))):w.heap.size≤gb270));have n4_:=Aside0.mk ((by rw [hg];exact (below_size (by repeat (first|(with_reducible first|exact HB.out|apply below_alloc|apply pw_below_drewN|apply below_drew1|refine below_set ?_ GE269.out)|exact HB.out))):w.heap.size≤gb270));have n5_:=Aside0.mk ((by rw [hg];exact Nat.ne_of_lt (blk_lt (g:=gb269) (o:=.cells #[.bool false,.string (⟨#[]⟩:ByteArray)] 43 (0,0)) (by (with_reducible repeat (first|refine blk_drewN ?_ _|refine blk_drew ?_|refine blk_alloc ?_ _));exact BK269.out)):gb269≠gb270));have n6_:=Aside0.mk ((by rw [hg];exact Nat.ne_of_gt (blk_lt (g:=gb269) (o:=.cells #[.bool false,.string (⟨#[]⟩:ByteArray)] 43 (0,0)) (by (with_reducible repeat (first|refine blk_drewN ?_ _|refine blk_drew ?_|refine blk_alloc ?_ _));exact BK269.out)):gb270≠gb269));clear BK269;clear HB;have BK269:=n0_;have HB:=n1_;have BK270:=n2_;have GW270:=n3_;have GE270:=n4_;have NB269_270:=n5_;have NB270_269:=n6_;clear n0_ n1_ n2_ n3_ n4_ n5_ n6_;clear hb hbox hg;have hnb10:=NB269_270.out;have hnc10:=NB270_269.out;have hcz11_0:w9.cell? ⟨gb269,0,none⟩ = some (.bool false):=(blk_cell BK269.out 0).trans rfl;have hcz11_1:w9.cell? ⟨gb269,1,none⟩ = some (.string (⟨#[]⟩:ByteArray)):=(blk_cell BK269.out 1).trans rfl;have hfz11_0:=blk_frozen BK269.out 0;have hfz11_1:=blk_frozen BK269.out 1;have hcz12_0:w9.cell? ⟨gb270,0,none⟩ = some (.bool false):=(blk_cell BK270.out 0).trans rfl;have hcz12_1:w9.cell? ⟨gb270,1,none⟩ = some (.string (⟨#[]⟩:ByteArray)):=(blk_cell BK270.out 1).trans rfl;have hfz12_0:=blk_frozen BK270.out 0;have hfz12_1:=blk_frozen BK270.out 1)|((with_reducible refine gate_callee (f:=52) rfl ?_);refine goesL_ (some 21) rfl rfl Tryz.func52 (by kernel_rfl) rfl #[.agg #[.bool t264,.string t265],.agg #[.bool t266,.string t267]] rfl (by (try simp only [List.map_toArray,List.map_cons,List.map_nil]);first|done|rfl|(simp only [List.length_drop,List.length_take];rfl)) ?_;(with_reducible refine (integer_number_plus.calls t264 t265 t266 t267 t271 t272 _ ?side1 A5.out).mono ?_);(case side1=>exact HLW.out.below (by repeat (first|(with_reducible first|exact HB.out|apply below_alloc|apply pw_below_drewN|apply below_drew1|refine below_set ?_ GE269.out|refine below_set ?_ GE270.out)|exact HB.out)));rintro e w13 ⟨rfl,hb⟩;refine ⟨_,rfl,?_⟩;have n0_:=Aside0.mk (blk_below (g:=gb269) (o:=.cells #[.bool t264,.string t265] 43 (0,0)) (by (with_reducible repeat (first|refine blk_drewN ?_ _|refine blk_drew ?_|refine blk_alloc ?_ _));refine blk_far ?_ NB269_270.out _;(with_reducible repeat (first|refine blk_drewN ?_ _|refine blk_drew ?_|refine blk_alloc ?_ _));refine blk_far ?_ NB269_270.out _;(with_reducible repeat (first|refine blk_drewN ?_ _|refine blk_drew ?_|refine blk_alloc ?_ _));refine blk_put (cs:=#[.bool t264,.string (⟨#[]⟩:ByteArray)]) ?_ 1 _ rfl;(with_reducible repeat (first|refine blk_drewN ?_ _|refine blk_drew ?_|refine blk_alloc ?_ _));refine blk_put (cs:=#[.bool false,.string (⟨#[]⟩:ByteArray)]) ?_ 0 _ rfl;(with_reducible repeat (first|refine blk_drewN ?_ _|refine blk_drew ?_|refine blk_alloc ?_ _));exact BK269.out) hb);have n1_:=Aside0.mk (blk_below (g:=gb270) (o:=.cells #[.bool t266,.string t267] 43 (0,0)) (by (with_reducible repeat (first|refine blk_drewN ?_ _|refine blk_drew ?_|refine blk_alloc ?_ _));refine blk_put (cs:=#[.bool t266,.string (⟨#[]⟩:ByteArray)]) ?_ 1 _ rfl;(with_reducible repeat (first|refine blk_drewN ?_ _|refine blk_drew ?_|refine blk_alloc ?_ _));refine blk_put (cs:=#[.bool false,.string (⟨#[]⟩:ByteArray)]) ?_ 0 _ rfl;(with_reducible repeat (first|refine blk_drewN ?_ _|refine blk_drew ?_|refine blk_alloc ?_ _));refine blk_far ?_ NB270_269.out _;(with_reducible repeat (first|refine blk_drewN ?_ _|refine blk_drew ?_|refine blk_alloc ?_ _));refine blk_far ?_ NB270_269.out _;(with_reducible repeat (first|refine blk_drewN ?_ _|refine blk_drew ?_|refine blk_alloc ?_ _));exact BK270.out) hb);have n2_:=Aside0.mk (below_step (by repeat (first|(with_reducible first|exact HB.out|apply below_alloc|apply pw_below_drewN|apply below_drew1|refine below_set ?_ GE269.out|refine below_set ?_ GE270.out)|exact HB.out)) hb);clear BK269;clear BK270;clear HB;have BK269:=n0_;have BK270:=n1_;have HB:=n2_;clear n0_ n1_ n2_;(try clear hb);(try clear hb2);(try clear hk);(try clear hi))|((with_reducible refine gate_callee (f:=46) rfl ?_);refine goesL_ (some 22) rfl rfl Tryz.func46 (by kernel_rfl) rfl #[.agg #[.bool t271,.string t272]] rfl (by (try simp only [List.map_toArray,List.map_cons,List.map_nil]);first|done|rfl|(simp only [List.length_drop,List.length_take];rfl)) ?_;(with_reducible refine (integer_number_text.calls t271 t272 t273 _ A6.out).mono ?_);rintro e w14 ⟨rfl,hb⟩;refine ⟨_,rfl,?_⟩;have n0_:=Aside0.mk (blk_below (g:=gb269) (o:=.cells #[.bool t264,.string t265] 43 (0,0)) (by (with_reducible repeat (first|refine blk_drewN ?_ _|refine blk_drew ?_|refine blk_alloc ?_ _));exact BK269.out) hb);have n1_:=Aside0.mk (blk_below (g:=gb270) (o:=.cells #[.bool t266,.string t267] 43 (0,0)) (by (with_reducible repeat (first|refine blk_drewN ?_ _|refine blk_drew ?_|refine blk_alloc ?_ _));exact BK270.out) hb);have n2_:=Aside0.mk (below_step (by repeat (first|(with_reducible first|exact HB.out|apply below_alloc|apply pw_below_drewN|apply below_drew1|refine below_set ?_ GE269.out|refine below_set ?_ GE270.out)|exact HB.out)) hb);clear BK269;clear BK270;clear HB;have BK269:=n0_;have BK270:=n1_;have HB:=n2_;clear n0_ n1_ n2_;(try clear hb);(try clear hb2);(try clear hk);(try clear hi)))
  go_ret2
  exact ⟨by first|rfl|(simp [errW_none,errW_some]<;>rfl)|(simp [*,errW_none,errW_some]<;>rfl),by repeat (first|(with_reducible first|exact HB.out|apply below_alloc|apply pw_below_drewN|apply below_drew1|refine below_set ?_ GE269.out|refine below_set ?_ GE270.out)|exact HB.out)⟩
 ·rw [if_neg c4] at H
  have c4b0:(t268 == 0) = false:=beq_eq_false_iff_ne.mpr c4
  have c4b1:(t268 != 0) = true:=bne_iff_ne.mpr c4
  simp only [Option.some.injEq,Prod.mk.injEq] at H
  obtain ⟨rfl,rfl⟩:=H
  go_enter Tryz.func24,Tryz.ntmps24
  go_wp2_with (first|((with_reducible refine gate_callee (f:=51) rfl ?_);refine goesL_ (some 12) rfl rfl Tryz.func51 (by kernel_rfl) rfl #[.string a0,.string a1] rfl (by (try simp only [List.map_toArray,List.map_cons,List.map_nil]);first|done|rfl|(simp only [List.length_drop,List.length_take];rfl)) ?_;(with_reducible refine (integer_both.calls k a0 a1 t264 t265 t266 t267 t268 _ A3.out).mono ?_);rintro e w15 ⟨rfl,hb⟩;refine ⟨_,rfl,?_⟩;have n0_:=Aside0.mk (below_step (by repeat (first|(with_reducible first|exact HB.out|apply below_alloc|apply pw_below_drewN|apply below_drew1)|exact HB.out)) hb);clear HB;have HB:=n0_;clear n0_;(try clear hb);(try clear hb2);(try clear hk);(try clear hi))|((with_reducible refine gate_dst (N:=6) rfl ?_);refine box_event ?hg (N:=6) ?hd (cs:=#[.bool false,.string (⟨#[]⟩:ByteArray)]) (t:=43) ?hr ?_;(case hd=>rfl);(case hg=>rfl);(case hr=>first|(go_simp;done)|(go_simp;rfl));intro gb269 hg w16 hbox hb;have n0_:=Aside0.mk (below_step (by repeat (first|(with_reducible first|exact HB.out|apply below_alloc|apply pw_below_drewN|apply below_drew1)|exact HB.out)) hb);have n1_:=Aside0.mk (hbox);have n2_:=Aside0.mk ((by rw [hg];exact (below_size (by repeat (first|(with_reducible first|exact HB.out|apply below_alloc|apply pw_below_drewN|apply below_drew1)|exact HB.out))):w.heap.size≤gb269));have n3_:=Aside0.mk ((by rw [hg];exact (below_size (by repeat (first|(with_reducible first|exact HB.out|apply below_alloc|apply pw_below_drewN|apply below_drew1)|exact HB.out))):w.heap.size≤gb269));clear HB;have HB:=n0_;have BK269:=n1_;have GW269:=n2_;have GE269:=n3_;clear n0_ n1_ n2_ n3_;clear hb hbox hg)|((with_reducible refine gate_dst (N:=7) rfl ?_);refine box_event ?hg (N:=7) ?hd (cs:=#[.bool false,.string (⟨#[]⟩:ByteArray)]) (t:=43) ?hr ?_;(case hd=>rfl);(case hg=>rfl);(case hr=>first|(go_simp;done)|(go_simp;rfl));intro gb270 hg w17 hbox hb;have n0_:=Aside0.mk (blk_below (g:=gb269) (o:=.cells #[.bool false,.string (⟨#[]⟩:ByteArray)] 43 (0,0)) (by (with_reducible repeat (first|refine blk_drewN ?_ _|refine blk_drew ?_|refine blk_alloc ?_ _));exact BK269.out) hb);have n1_:=Aside0.mk (below_step (by repeat (first|(with_reducible first|exact HB.out|apply below_alloc|apply pw_below_drewN|apply below_drew1|refine below_set ?_ GE269.out)|exact HB.out)) hb);have n2_:=Aside0.mk (hbox);have n3_:=Aside0.mk ((by rw [hg];exact (below_size (by repeat (first|(with_reducible first|exact HB.out|apply below_alloc|apply pw_below_drewN|apply below_drew1|refine below_set ?_ GE269.out)|exact HB.out))):w.heap.size≤gb270));have n4_:=Aside0.mk ((by rw [hg];exact (below_size (by repeat (first|(with_reducible first|exact HB.out|apply below_alloc|apply pw_below_drewN|apply below_drew1|refine below_set ?_ GE269.out)|exact HB.out))):w.heap.size≤gb270));have n5_:=Aside0.mk ((by rw [hg];exact Nat.ne_of_lt (blk_lt (g:=gb269) (o:=.cells #[.bool false,.string (⟨#[]⟩:ByteArray)] 43 (0,0)) (by (with_reducible repeat (first|refine blk_drewN ?_ _|refine blk_drew ?_|refine blk_alloc ?_ _));exact BK269.out)):gb269≠gb270));have n6_:=Aside0.mk ((by rw [hg];exact Nat.ne_of_gt (blk_lt (g:=gb269) (o:=.cells #[.bool false,.string (⟨#[]⟩:ByteArray)] 43 (0,0)) (by (with_reducible repeat (first|refine blk_drewN ?_ _|refine blk_drew ?_|refine blk_alloc ?_ _));exact BK269.out)):gb270≠gb269));clear BK269;clear HB;have BK269:=n0_;have HB:=n1_;have BK270:=n2_;have GW270:=n3_;have GE270:=n4_;have NB269_270:=n5_;have NB270_269:=n6_;clear n0_ n1_ n2_ n3_ n4_ n5_ n6_;clear hb hbox hg;have hnb18:=NB269_270.out;have hnc18:=NB270_269.out;have hcz19_0:w17.cell? ⟨gb269,0,none⟩ = some (.bool false):=(blk_cell BK269.out 0).trans rfl;have hcz19_1:w17.cell? ⟨gb269,1,none⟩ = some (.string (⟨#[]⟩:ByteArray)):=(blk_cell BK269.out 1).trans rfl;have hfz19_0:=blk_frozen BK269.out 0;have hfz19_1:=blk_frozen BK269.out 1;have hcz20_0:w17.cell? ⟨gb270,0,none⟩ = some (.bool false):=(blk_cell BK270.out 0).trans rfl;have hcz20_1:w17.cell? ⟨gb270,1,none⟩ = some (.string (⟨#[]⟩:ByteArray)):=(blk_cell BK270.out 1).trans rfl;have hfz20_0:=blk_frozen BK270.out 0;have hfz20_1:=blk_frozen BK270.out 1))
  go_ret2
  exact ⟨by first|rfl|(simp [errW_none,errW_some]<;>rfl)|(simp [*,errW_none,errW_some]<;>rfl),by repeat (first|(with_reducible first|exact HB.out|apply below_alloc|apply pw_below_drewN|apply below_drew1|refine below_set ?_ GE269.out|refine below_set ?_ GE270.out)|exact HB.out)⟩
end Go.Proofs.YtaknchlegjcdhaaGreatDoor.Pr
