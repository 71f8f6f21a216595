/- Part 4 of 4: walks and laws of the functions of chapter 01 (natural numbers as text), which the last part joins; no condition beyond those of the theorem there. The words of the print (W..) are the kit's, cut down by program to what is used here. -/
import Derived.Test.YtaopmkcghancmaaDoorCz3
namespace Go.Proofs.YtaopmkcghancmaaDoor.Pa
open Go.RowKit Go.Proofs.YtaopmkcghancmaaDoorW.PrintWords Go.Proofs.YtaopmkcghancmaaDoorW.PrintLast Go.Proofs.YtaopmkcghancmaaDoorW.PrintMore
attribute [local go_sem] max2_int min2_int max_two min_two max_three min_three max_four min_four
set_option linter.unusedVariables false
set_option linter.unusedSimpArgs false
def natural_Mul.f (k:Nat) (a0:ByteArray) (a1:ByteArray):Option (ByteArray × Int):=(natural_both.f k a0 a1).bind fun bt212=>(if bt212.2.2 = 0 then ((natural_num_times.f bt212.1 bt212.2.1).bind fun bt219=>(some (bt219.1,bt219.2))) else (some ((⟨#[]⟩:ByteArray),bt212.2.2)))
set_option maxHeartbeats 8000000 in
set_option maxRecDepth 100000 in
theorem natural_Mul.calls (k:Nat) (a0:ByteArray) (a1:ByteArray) (r1:ByteArray) (r2:Int) (w:World) (hL:LaidW w) (h:natural_Mul.f k a0 a1 = some (r1,r2)) :
  Calls Tryd.prog 21 #[.string a0,.string a1] w fun e w'=>e = .returned (.tuple #[.string r1,.int .i64 r2])∧Below w.heap.size w w':=by
 have HB:=Aside0.mk (Below.refl w.heap.size w)
 have HLW:=Aside0.mk hL
 clear hL
 have H:((natural_both.f k a0 a1).bind fun bt212=>(if bt212.2.2 = 0 then ((natural_num_times.f bt212.1 bt212.2.1).bind fun bt219=>(some (bt219.1,bt219.2))) else (some ((⟨#[]⟩:ByteArray),bt212.2.2)))) = some (r1,r2):=h
 clear h
 replace H:=Option.bind_eq_some_iff.mp H
 obtain ⟨⟨t212,t213,t214⟩,A30,H⟩:=H
 replace H:(if t214 = 0 then ((natural_num_times.f t212 t213).bind fun bt219=>(some (bt219.1,bt219.2))) else (some ((⟨#[]⟩:ByteArray),t214))) = some (r1,r2):=H
 have A3:=Aside0.mk A30
 clear A30
 by_cases c4:t214 = 0
 ·rw [if_pos c4] at H
  have c4b0:(t214 == 0) = true:=beq_iff_eq.mpr c4
  have c4b1:(t214 != 0) = false:=bne_eq_false_iff_eq.mpr c4
  clear c4
  replace H:=Option.bind_eq_some_iff.mp H
  obtain ⟨⟨t219,t220⟩,A50,H⟩:=H
  replace H:(some (t219,t220)) = some (r1,r2):=H
  have A5:=Aside0.mk A50
  clear A50
  simp only [Option.some.injEq,Prod.mk.injEq] at H
  obtain ⟨rfl,rfl⟩:=H
  go_enter Tryd.func21,Tryd.ntmps21
  go_wp2_with (first|((with_reducible refine gate_callee (f:=33) rfl ?_);refine goesL_ (some 12) rfl rfl Tryd.func33 (by kernel_rfl) rfl #[.string a0,.string a1] rfl (by (try simp only [List.map_toArray,List.map_cons,List.map_nil]);first|done|rfl|(simp only [List.length_drop,List.length_take];rfl)) ?_;(with_reducible refine (natural_both.calls k a0 a1 t212 t213 t214 _ A3.out).mono ?_);rintro e w6 ⟨v215,v217,rfl,ho0,ho1,hb⟩;refine ⟨_,rfl,?_⟩;have n0_:=Aside0.mk (Kd.R_lower ho0 (below_size (by repeat (first|(with_reducible first|exact HB.out|apply below_alloc|apply pw_below_drewN|apply below_drew1)|exact HB.out))));have n1_:=Aside0.mk (Kd.R_lower ho1 (below_size (by repeat (first|(with_reducible first|exact HB.out|apply below_alloc|apply pw_below_drewN|apply below_drew1)|exact HB.out))));have n2_:=Aside0.mk (below_step (by repeat (first|(with_reducible first|exact HB.out|apply below_alloc|apply pw_below_drewN|apply below_drew1)|exact HB.out)) hb);clear HB;have HO216:=n0_;have HO218:=n1_;have HB:=n2_;clear n0_ n1_ n2_;(try clear hb);(try clear hb2);(try clear hk);(try clear hi);(try clear ho0);(try clear ho1);obtain ⟨Ao7,co7,eo7⟩:=Kd.R_slice HO216.out;subst eo7;obtain ⟨Ao8,co8,eo8⟩:=Kd.R_slice HO218.out;subst eo8)|((with_reducible refine gate_callee (f:=37) rfl ?_);refine goesL_ (some 22) rfl rfl Tryd.func37 (by kernel_rfl) rfl #[.func (.func 43) #[.slice Ao7 t212.length co7] #[],.slice Ao8 t213.length co8] rfl (by (try simp only [List.map_toArray,List.map_cons,List.map_nil]);first|done|rfl|(simp only [List.length_drop,List.length_take];rfl)) ?_;(with_reducible refine (natural_num_times.calls _ _ t212 _ _ t213 t219 t220 _ ?side1 ?side2 ?side3 ?side4 ?side5 A5.out).mono ?_);(case side1=>repeat (first|exact (Kd.R_reads' HO216.out).2.2|(with_reducible refine Kd.C_alloc ?_ _)|(with_reducible refine Kd.C_drewN ?_ _)|(with_reducible refine Kd.C_drew ?_)));(case side2=>exact (Kd.R_reads' HO216.out).2.1);(case side3=>repeat (first|exact (Kd.R_reads' HO218.out).2.2|(with_reducible refine Kd.C_alloc ?_ _)|(with_reducible refine Kd.C_drewN ?_ _)|(with_reducible refine Kd.C_drew ?_)));(case side4=>exact (Kd.R_reads' HO218.out).2.1);(case side5=>exact HLW.out.below (by repeat (first|(with_reducible first|exact HB.out|apply below_alloc|apply pw_below_drewN|apply below_drew1)|exact HB.out)));rintro e w9 ⟨rfl,hb⟩;refine ⟨_,rfl,?_⟩;have n0_:=Aside0.mk (Kd.R_below (by (with_reducible repeat (first|apply Kd.R_alloc|apply Kd.R_drewN|apply Kd.R_drew));exact HO216.out) hb);have n1_:=Aside0.mk (Kd.R_below (by (with_reducible repeat (first|apply Kd.R_alloc|apply Kd.R_drewN|apply Kd.R_drew));exact HO218.out) hb);have n2_:=Aside0.mk (below_step (by repeat (first|(with_reducible first|exact HB.out|apply below_alloc|apply pw_below_drewN|apply below_drew1)|exact HB.out)) hb);clear HO216;clear HO218;clear HB;have HO216:=n0_;have HO218:=n1_;have HB:=n2_;clear n0_ n1_ n2_;(try clear hb);(try clear hb2);(try clear hk);(try clear hi)))
  go_ret2
  exact ⟨by first|rfl|(simp [errW_none,errW_some]<;>rfl)|(simp [*,errW_none,errW_some]<;>rfl),by repeat (first|(with_reducible first|exact HB.out|apply below_alloc|apply pw_below_drewN|apply below_drew1)|exact HB.out)⟩
 ·rw [if_neg c4] at H
  have c4b0:(t214 == 0) = false:=beq_eq_false_iff_ne.mpr c4
  have c4b1:(t214 != 0) = true:=bne_iff_ne.mpr c4
  simp only [Option.some.injEq,Prod.mk.injEq] at H
  obtain ⟨rfl,rfl⟩:=H
  go_enter Tryd.func21,Tryd.ntmps21
  go_wp2_with (first|((with_reducible refine gate_callee (f:=33) rfl ?_);refine goesL_ (some 12) rfl rfl Tryd.func33 (by kernel_rfl) rfl #[.string a0,.string a1] rfl (by (try simp only [List.map_toArray,List.map_cons,List.map_nil]);first|done|rfl|(simp only [List.length_drop,List.length_take];rfl)) ?_;(with_reducible refine (natural_both.calls k a0 a1 t212 t213 t214 _ A3.out).mono ?_);rintro e w10 ⟨v215,v217,rfl,ho0,ho1,hb⟩;refine ⟨_,rfl,?_⟩;have n0_:=Aside0.mk (Kd.R_lower ho0 (below_size (by repeat (first|(with_reducible first|exact HB.out|apply below_alloc|apply pw_below_drewN|apply below_drew1)|exact HB.out))));have n1_:=Aside0.mk (Kd.R_lower ho1 (below_size (by repeat (first|(with_reducible first|exact HB.out|apply below_alloc|apply pw_below_drewN|apply below_drew1)|exact HB.out))));have n2_:=Aside0.mk (below_step (by repeat (first|(with_reducible first|exact HB.out|apply below_alloc|apply pw_below_drewN|apply below_drew1)|exact HB.out)) hb);clear HB;have HO216:=n0_;have HO218:=n1_;have HB:=n2_;clear n0_ n1_ n2_;(try clear hb);(try clear hb2);(try clear hk);(try clear hi);(try clear ho0);(try clear ho1)))
  go_ret2
  exact ⟨by first|rfl|(simp [errW_none,errW_some]<;>rfl)|(simp [*,errW_none,errW_some]<;>rfl),by repeat (first|(with_reducible first|exact HB.out|apply below_alloc|apply pw_below_drewN|apply below_drew1)|exact HB.out)⟩
end Go.Proofs.YtaopmkcghancmaaDoor.Pa
namespace Go.Proofs.YtaopmkcghancmaaDoor.Pa
open Go.RowKit Go.Proofs.YtaopmkcghancmaaDoorW.PrintWords Go.Proofs.YtaopmkcghancmaaDoorW.PrintLast Go.Proofs.YtaopmkcghancmaaDoorW.PrintMore
attribute [local go_sem] max2_int min2_int max_two min_two max_three min_three max_four min_four
set_option linter.unusedVariables false
set_option linter.unusedSimpArgs false
def natural_GCD.f (k:Nat) (a0:ByteArray) (a1:ByteArray):Option (ByteArray × Int):=(natural_both.f k a0 a1).bind fun bt221=>(if bt221.2.2 = 0 then ((natural_num_gcd.f bt221.1 bt221.2.1).bind fun bt228=>(some (bt228.1,bt228.2))) else (some ((⟨#[]⟩:ByteArray),bt221.2.2)))
set_option maxHeartbeats 8000000 in
set_option maxRecDepth 100000 in
theorem natural_GCD.calls (k:Nat) (a0:ByteArray) (a1:ByteArray) (r1:ByteArray) (r2:Int) (w:World) (hL:LaidW w) (h:natural_GCD.f k a0 a1 = some (r1,r2)) :
  Calls Tryd.prog 25 #[.string a0,.string a1] w fun e w'=>e = .returned (.tuple #[.string r1,.int .i64 r2])∧Below w.heap.size w w':=by
 have HB:=Aside0.mk (Below.refl w.heap.size w)
 have HLW:=Aside0.mk hL
 clear hL
 have H:((natural_both.f k a0 a1).bind fun bt221=>(if bt221.2.2 = 0 then ((natural_num_gcd.f bt221.1 bt221.2.1).bind fun bt228=>(some (bt228.1,bt228.2))) else (some ((⟨#[]⟩:ByteArray),bt221.2.2)))) = some (r1,r2):=h
 clear h
 replace H:=Option.bind_eq_some_iff.mp H
 obtain ⟨⟨t221,t222,t223⟩,A30,H⟩:=H
 replace H:(if t223 = 0 then ((natural_num_gcd.f t221 t222).bind fun bt228=>(some (bt228.1,bt228.2))) else (some ((⟨#[]⟩:ByteArray),t223))) = some (r1,r2):=H
 have A3:=Aside0.mk A30
 clear A30
 by_cases c4:t223 = 0
 ·rw [if_pos c4] at H
  have c4b0:(t223 == 0) = true:=beq_iff_eq.mpr c4
  have c4b1:(t223 != 0) = false:=bne_eq_false_iff_eq.mpr c4
  clear c4
  replace H:=Option.bind_eq_some_iff.mp H
  obtain ⟨⟨t228,t229⟩,A50,H⟩:=H
  replace H:(some (t228,t229)) = some (r1,r2):=H
  have A5:=Aside0.mk A50
  clear A50
  simp only [Option.some.injEq,Prod.mk.injEq] at H
  obtain ⟨rfl,rfl⟩:=H
  go_enter Tryd.func25,Tryd.ntmps25
  go_wp2_with (first|((with_reducible refine gate_callee (f:=33) rfl ?_);refine goesL_ (some 12) rfl rfl Tryd.func33 (by kernel_rfl) rfl #[.string a0,.string a1] rfl (by (try simp only [List.map_toArray,List.map_cons,List.map_nil]);first|done|rfl|(simp only [List.length_drop,List.length_take];rfl)) ?_;(with_reducible refine (natural_both.calls k a0 a1 t221 t222 t223 _ A3.out).mono ?_);rintro e w6 ⟨v224,v226,rfl,ho0,ho1,hb⟩;refine ⟨_,rfl,?_⟩;have n0_:=Aside0.mk (Kd.R_lower ho0 (below_size (by repeat (first|(with_reducible first|exact HB.out|apply below_alloc|apply pw_below_drewN|apply below_drew1)|exact HB.out))));have n1_:=Aside0.mk (Kd.R_lower ho1 (below_size (by repeat (first|(with_reducible first|exact HB.out|apply below_alloc|apply pw_below_drewN|apply below_drew1)|exact HB.out))));have n2_:=Aside0.mk (below_step (by repeat (first|(with_reducible first|exact HB.out|apply below_alloc|apply pw_below_drewN|apply below_drew1)|exact HB.out)) hb);clear HB;have HO225:=n0_;have HO227:=n1_;have HB:=n2_;clear n0_ n1_ n2_;(try clear hb);(try clear hb2);(try clear hk);(try clear hi);(try clear ho0);(try clear ho1);obtain ⟨Ao7,co7,eo7⟩:=Kd.R_slice HO225.out;subst eo7;obtain ⟨Ao8,co8,eo8⟩:=Kd.R_slice HO227.out;subst eo8)|((with_reducible refine gate_callee (f:=37) rfl ?_);refine goesL_ (some 22) rfl rfl Tryd.func37 (by kernel_rfl) rfl #[.func (.func 48) #[.slice Ao7 t221.length co7] #[],.slice Ao8 t222.length co8] rfl (by (try simp only [List.map_toArray,List.map_cons,List.map_nil]);first|done|rfl|(simp only [List.length_drop,List.length_take];rfl)) ?_;(with_reducible refine (natural_num_gcd.calls _ _ t221 _ _ t222 t228 t229 _ ?side1 ?side2 ?side3 ?side4 ?side5 A5.out).mono ?_);(case side1=>repeat (first|exact (Kd.R_reads' HO225.out).2.2|(with_reducible refine Kd.C_alloc ?_ _)|(with_reducible refine Kd.C_drewN ?_ _)|(with_reducible refine Kd.C_drew ?_)));(case side2=>exact (Kd.R_reads' HO225.out).2.1);(case side3=>repeat (first|exact (Kd.R_reads' HO227.out).2.2|(with_reducible refine Kd.C_alloc ?_ _)|(with_reducible refine Kd.C_drewN ?_ _)|(with_reducible refine Kd.C_drew ?_)));(case side4=>exact (Kd.R_reads' HO227.out).2.1);(case side5=>exact HLW.out.below (by repeat (first|(with_reducible first|exact HB.out|apply below_alloc|apply pw_below_drewN|apply below_drew1)|exact HB.out)));rintro e w9 ⟨rfl,hb⟩;refine ⟨_,rfl,?_⟩;have n0_:=Aside0.mk (Kd.R_below (by (with_reducible repeat (first|apply Kd.R_alloc|apply Kd.R_drewN|apply Kd.R_drew));exact HO225.out) hb);have n1_:=Aside0.mk (Kd.R_below (by (with_reducible repeat (first|apply Kd.R_alloc|apply Kd.R_drewN|apply Kd.R_drew));exact HO227.out) hb);have n2_:=Aside0.mk (below_step (by repeat (first|(with_reducible first|exact HB.out|apply below_alloc|apply pw_below_drewN|apply below_drew1)|exact HB.out)) hb);clear HO225;clear HO227;clear HB;have HO225:=n0_;have HO227:=n1_;have HB:=n2_;clear n0_ n1_ n2_;(try clear hb);(try clear hb2);(try clear hk);(try clear hi)))
  go_ret2
  exact ⟨by first|rfl|(simp [errW_none,errW_some]<;>rfl)|(simp [*,errW_none,errW_some]<;>rfl),by repeat (first|(with_reducible first|exact HB.out|apply below_alloc|apply pw_below_drewN|apply below_drew1)|exact HB.out)⟩
 ·rw [if_neg c4] at H
  have c4b0:(t223 == 0) = false:=beq_eq_false_iff_ne.mpr c4
  have c4b1:(t223 != 0) = true:=bne_iff_ne.mpr c4
  simp only [Option.some.injEq,Prod.mk.injEq] at H
  obtain ⟨rfl,rfl⟩:=H
  go_enter Tryd.func25,Tryd.ntmps25
  go_wp2_with (first|((with_reducible refine gate_callee (f:=33) rfl ?_);refine goesL_ (some 12) rfl rfl Tryd.func33 (by kernel_rfl) rfl #[.string a0,.string a1] rfl (by (try simp only [List.map_toArray,List.map_cons,List.map_nil]);first|done|rfl|(simp only [List.length_drop,List.length_take];rfl)) ?_;(with_reducible refine (natural_both.calls k a0 a1 t221 t222 t223 _ A3.out).mono ?_);rintro e w10 ⟨v224,v226,rfl,ho0,ho1,hb⟩;refine ⟨_,rfl,?_⟩;have n0_:=Aside0.mk (Kd.R_lower ho0 (below_size (by repeat (first|(with_reducible first|exact HB.out|apply below_alloc|apply pw_below_drewN|apply below_drew1)|exact HB.out))));have n1_:=Aside0.mk (Kd.R_lower ho1 (below_size (by repeat (first|(with_reducible first|exact HB.out|apply below_alloc|apply pw_below_drewN|apply below_drew1)|exact HB.out))));have n2_:=Aside0.mk (below_step (by repeat (first|(with_reducible first|exact HB.out|apply below_alloc|apply pw_below_drewN|apply below_drew1)|exact HB.out)) hb);clear HB;have HO225:=n0_;have HO227:=n1_;have HB:=n2_;clear n0_ n1_ n2_;(try clear hb);(try clear hb2);(try clear hk);(try clear hi);(try clear ho0);(try clear ho1)))
  go_ret2
  exact ⟨by first|rfl|(simp [errW_none,errW_some]<;>rfl)|(simp [*,errW_none,errW_some]<;>rfl),by repeat (first|(with_reducible first|exact HB.out|apply below_alloc|apply pw_below_drewN|apply below_drew1)|exact HB.out)⟩
end Go.Proofs.YtaopmkcghancmaaDoor.Pa
set_option linter.unusedVariables false
set_option linter.unusedSimpArgs false
namespace Go.Proofs.YtaopmkcghancmaaDoor.Pr
open Go.RowKit Go.Proofs.YtaopmkcghancmaaDoorW.PrintWords Go.Proofs.YtaopmkcghancmaaDoorW.PrintLast Go.Proofs.YtaopmkcghancmaaDoorW.PrintMore Go.Proofs.YtaopmkcghancmaaDoor.NatTh
def addV (a b:ByteArray):ByteArray × Int:=if (nv a && nv b) = true then (num (nat a + nat b),0) else (⟨#[]⟩,1)
def subV (a b:ByteArray):ByteArray × Int:=if (nv a && nv b) = true then (if nat a < nat b then (⟨#[]⟩,2) else (num (nat a - nat b),0)) else (⟨#[]⟩,1)
def mulV (a b:ByteArray):ByteArray × Int:=if (nv a && nv b) = true then (num (nat a * nat b),0) else (⟨#[]⟩,1)
def gcdV (a b:ByteArray):ByteArray × Int:=if (nv a && nv b) = true then (num (Nat.gcd (nat a) (nat b)),0) else (⟨#[]⟩,1)
def natural_Add.f (a b:ByteArray):Option (ByteArray × Int):=if Sh a∧Sh b then some (addV a b) else none
def natural_Sub.f (a b:ByteArray):Option (ByteArray × Int):=if Sh a∧Sh b then some (subV a b) else none
def natural_Mul.f (a b:ByteArray):Option (ByteArray × Int):=if Sh a∧Sh b then some (mulV a b) else none
def natural_GCD.f (a b:ByteArray):Option (ByteArray × Int):=if Sh a∧Sh b then some (gcdV a b) else none
theorem cann {a:ByteArray} (h:nv a = true) (ha:Sh a):can (numOf (nat a)):=can_numOf (by have:=nat_can a h ha;omega)
theorem add_ev (a b:ByteArray) (ha:Sh a) (hb:Sh b):Ev (fun k=>Pa.natural_Add.f k a b) (addV a b):=by
 refine Ev.congr (fun k=>rfl) (Ev.bind (both_ev a b ha hb) ?_)
 unfold addV bothV
 by_cases h:(nv a && nv b) = true
 ·obtain ⟨h1,h2⟩:=Bool.and_eq_true_iff.1 h
  rw [if_pos h,if_pos h]
  refine ⟨0,fun k _=>?_⟩
  dsimp only
  rw [if_pos rfl]
  unfold Pa.natural_num_plus.f
  rw [if_pos ⟨cann h1 ha,cann h2 hb⟩,nm_numOf,nm_numOf]
  rfl
 ·rw [if_neg h,if_neg h]
  exact ⟨0,fun k _=>rfl⟩
theorem mul_ev (a b:ByteArray) (ha:Sh a) (hb:Sh b):Ev (fun k=>Pa.natural_Mul.f k a b) (mulV a b):=by
 refine Ev.congr (fun k=>rfl) (Ev.bind (both_ev a b ha hb) ?_)
 unfold mulV bothV
 by_cases h:(nv a && nv b) = true
 ·obtain ⟨h1,h2⟩:=Bool.and_eq_true_iff.1 h
  rw [if_pos h,if_pos h]
  refine ⟨0,fun k _=>?_⟩
  dsimp only
  rw [if_pos rfl]
  unfold Pa.natural_num_times.f
  rw [if_pos ⟨cann h1 ha,cann h2 hb⟩,nm_numOf,nm_numOf]
  rfl
 ·rw [if_neg h,if_neg h]
  exact ⟨0,fun k _=>rfl⟩
theorem gcdS_ev (a b:ByteArray) (ha:Sh a) (hb:Sh b):Ev (fun k=>Pa.natural_GCD.f k a b) (gcdV a b):=by
 refine Ev.congr (fun k=>rfl) (Ev.bind (both_ev a b ha hb) ?_)
 unfold gcdV bothV
 by_cases h:(nv a && nv b) = true
 ·obtain ⟨h1,h2⟩:=Bool.and_eq_true_iff.1 h
  rw [if_pos h,if_pos h]
  refine ⟨0,fun k _=>?_⟩
  dsimp only
  rw [if_pos rfl]
  unfold Pa.natural_num_gcd.f
  rw [if_pos ⟨cann h1 ha,cann h2 hb⟩,nm_numOf,nm_numOf]
  rfl
 ·rw [if_neg h,if_neg h]
  exact ⟨0,fun k _=>rfl⟩
theorem ord_neg (a b:Nat):ord a b < 0 ↔ a < b:=by
 unfold ord
 by_cases h:a < b
 ·rw [if_pos h]
  simp [h]
 ·rw [if_neg h]
  by_cases h2:b < a
  ·rw [if_pos h2]
   omega
  ·rw [if_neg h2]
   omega
theorem sub_ev (a b:ByteArray) (ha:Sh a) (hb:Sh b):Ev (fun k=>Pa.natural_Sub.f k a b) (subV a b):=by
 refine Ev.congr (fun k=>rfl) (Ev.bind (both_ev a b ha hb) ?_)
 unfold subV bothV
 by_cases h:(nv a && nv b) = true
 ·obtain ⟨h1,h2⟩:=Bool.and_eq_true_iff.1 h
  rw [if_pos h,if_pos h]
  have la:=nat_can a h1 ha
  have lb:=nat_can b h2 hb
  have hc:=(compare_ev (nat a) (nat b) (by unfold Ok;omega) (by unfold Ok;omega)).1
  refine Ev.congr (f:=fun k=>(natural_num_compare.f k (numOf (nat a)) (numOf (nat b))).bind fun t209=>(if t209 < 0 then (some ((⟨#[]⟩:ByteArray),2)) else ((Pa.natural_num_minus.f (numOf (nat a)) (numOf (nat b))).bind fun bt210=>(some (bt210.1,bt210.2))))) (fun k=>if_pos rfl) (Ev.bind hc ?_)
  refine ⟨0,fun k _=>?_⟩
  by_cases hlt:nat a < nat b
  ·rw [if_pos hlt]
   dsimp only
   rw [if_pos ((ord_neg _ _).2 hlt)]
  ·rw [if_neg hlt]
   dsimp only
   rw [if_neg (fun h=>hlt ((ord_neg _ _).1 h))]
   unfold Pa.natural_num_minus.f
   rw [nm_numOf,nm_numOf,if_pos ⟨cann h1 ha,cann h2 hb,by omega⟩]
   rfl
 ·rw [if_neg h,if_neg h]
  exact ⟨0,fun k _=>rfl⟩
theorem natural_Add.calls (a0 a1:ByteArray) (r1:ByteArray) (r2:Int) (w:World) (hL:LaidW w) (h:natural_Add.f a0 a1 = some (r1,r2)) :
  Calls Tryd.prog 17 #[.string a0,.string a1] w fun e w'=>e = .returned (.tuple #[.string r1,.int .i64 r2])∧Below w.heap.size w w':=by
 unfold natural_Add.f at h
 split at h
 ·rename_i hc
  obtain ⟨k,e⟩:=(add_ev a0 a1 hc.1 hc.2).rounds
  exact Pa.natural_Add.calls k a0 a1 r1 r2 w hL (e.trans h)
 ·cases h
theorem natural_Sub.calls (a0 a1:ByteArray) (r1:ByteArray) (r2:Int) (w:World) (hL:LaidW w) (h:natural_Sub.f a0 a1 = some (r1,r2)) :
  Calls Tryd.prog 19 #[.string a0,.string a1] w fun e w'=>e = .returned (.tuple #[.string r1,.int .i64 r2])∧Below w.heap.size w w':=by
 unfold natural_Sub.f at h
 split at h
 ·rename_i hc
  obtain ⟨k,e⟩:=(sub_ev a0 a1 hc.1 hc.2).rounds
  exact Pa.natural_Sub.calls k a0 a1 r1 r2 w hL (e.trans h)
 ·cases h
theorem natural_Mul.calls (a0 a1:ByteArray) (r1:ByteArray) (r2:Int) (w:World) (hL:LaidW w) (h:natural_Mul.f a0 a1 = some (r1,r2)) :
  Calls Tryd.prog 21 #[.string a0,.string a1] w fun e w'=>e = .returned (.tuple #[.string r1,.int .i64 r2])∧Below w.heap.size w w':=by
 unfold natural_Mul.f at h
 split at h
 ·rename_i hc
  obtain ⟨k,e⟩:=(mul_ev a0 a1 hc.1 hc.2).rounds
  exact Pa.natural_Mul.calls k a0 a1 r1 r2 w hL (e.trans h)
 ·cases h
theorem natural_GCD.calls (a0 a1:ByteArray) (r1:ByteArray) (r2:Int) (w:World) (hL:LaidW w) (h:natural_GCD.f a0 a1 = some (r1,r2)) :
  Calls Tryd.prog 25 #[.string a0,.string a1] w fun e w'=>e = .returned (.tuple #[.string r1,.int .i64 r2])∧Below w.heap.size w w':=by
 unfold natural_GCD.f at h
 split at h
 ·rename_i hc
  obtain ⟨k,e⟩:=(gcdS_ev a0 a1 hc.1 hc.2).rounds
  exact Pa.natural_GCD.calls k a0 a1 r1 r2 w hL (e.trans h)
 ·cases h
end Go.Proofs.YtaopmkcghancmaaDoor.Pr
namespace Go.Proofs.YtaopmkcghancmaaDoor.Pr
open Go.RowKit Go.Proofs.YtaopmkcghancmaaDoorW.PrintWords Go.Proofs.YtaopmkcghancmaaDoorW.PrintLast Go.Proofs.YtaopmkcghancmaaDoorW.PrintMore
attribute [local go_sem] max2_int min2_int max_two min_two max_three min_three max_four min_four
set_option linter.unusedVariables false
set_option linter.unusedSimpArgs false
def natural_Compare.f (k:Nat) (a0:ByteArray) (a1:ByteArray):Option (Int × Int):=(natural_both.f k a0 a1).bind fun bt159=>(if bt159.2.2 = 0 then ((natural_num_compare.f k bt159.1 bt159.2.1).bind fun t166=>(some (t166,0))) else (some (0,bt159.2.2)))
set_option maxHeartbeats 8000000 in
set_option maxRecDepth 100000 in
theorem natural_Compare.calls (k:Nat) (a0:ByteArray) (a1:ByteArray) (r1:Int) (r2:Int) (w:World) (h:natural_Compare.f k a0 a1 = some (r1,r2)) :
  Calls Tryd.prog 13 #[.string a0,.string a1] w fun e w'=>e = .returned (.tuple #[.int .i64 r1,.int .i64 r2])∧Below w.heap.size w w':=by
 have HB:=Aside0.mk (Below.refl w.heap.size w)
 have H:((natural_both.f k a0 a1).bind fun bt159=>(if bt159.2.2 = 0 then ((natural_num_compare.f k bt159.1 bt159.2.1).bind fun t166=>(some (t166,0))) else (some (0,bt159.2.2)))) = some (r1,r2):=h
 clear h
 replace H:=Option.bind_eq_some_iff.mp H
 obtain ⟨⟨t159,t160,t161⟩,A30,H⟩:=H
 replace H:(if t161 = 0 then ((natural_num_compare.f k t159 t160).bind fun t166=>(some (t166,0))) else (some (0,t161))) = some (r1,r2):=H
 have A3:=Aside0.mk A30
 clear A30
 by_cases c4:t161 = 0
 ·rw [if_pos c4] at H
  have c4b0:(t161 == 0) = true:=beq_iff_eq.mpr c4
  have c4b1:(t161 != 0) = false:=bne_eq_false_iff_eq.mpr c4
  clear c4
  replace H:=Option.bind_eq_some_iff.mp H
  obtain ⟨t166,A50,H⟩:=H
  replace H:(some (t166,0)) = some (r1,r2):=H
  have A5:=Aside0.mk A50
  clear A50
  simp only [Option.some.injEq,Prod.mk.injEq] at H
  obtain ⟨rfl,rfl⟩:=H
  go_enter Tryd.func13,Tryd.ntmps13
  go_wp2_with (first|((with_reducible refine gate_callee (f:=33) rfl ?_);refine goesL_ (some 12) rfl rfl Tryd.func33 (by kernel_rfl) rfl #[.string a0,.string a1] rfl (by (try simp only [List.map_toArray,List.map_cons,List.map_nil]);first|done|rfl|(simp only [List.length_drop,List.length_take];rfl)) ?_;(with_reducible refine (natural_both.calls k a0 a1 t159 t160 t161 _ A3.out).mono ?_);rintro e w6 ⟨v162,v164,rfl,ho0,ho1,hb⟩;refine ⟨_,rfl,?_⟩;have n0_:=Aside0.mk (Kd.R_lower ho0 (below_size (by repeat (first|(with_reducible first|exact HB.out|apply below_alloc|apply pw_below_drewN|apply below_drew1)|exact HB.out))));have n1_:=Aside0.mk (Kd.R_lower ho1 (below_size (by repeat (first|(with_reducible first|exact HB.out|apply below_alloc|apply pw_below_drewN|apply below_drew1)|exact HB.out))));have n2_:=Aside0.mk (below_step (by repeat (first|(with_reducible first|exact HB.out|apply below_alloc|apply pw_below_drewN|apply below_drew1)|exact HB.out)) hb);clear HB;have HO163:=n0_;have HO165:=n1_;have HB:=n2_;clear n0_ n1_ n2_;(try clear hb);(try clear hb2);(try clear hk);(try clear hi);(try clear ho0);(try clear ho1);obtain ⟨Ao7,co7,eo7⟩:=Kd.R_slice HO163.out;subst eo7;obtain ⟨Ao8,co8,eo8⟩:=Kd.R_slice HO165.out;subst eo8)|((with_reducible refine gate_callee (f:=34) rfl ?_);refine goesL_ (some 21) rfl rfl Tryd.func34 (by kernel_rfl) rfl #[.slice Ao7 t159.length co7,.slice Ao8 t160.length co8] rfl (by (try simp only [List.map_toArray,List.map_cons,List.map_nil]);first|done|rfl|(simp only [List.length_drop,List.length_take];rfl)) ?_;(with_reducible refine (natural_num_compare.calls k _ _ t159 _ _ t160 t166 _ ?side1 ?side2 ?side3 ?side4 A5.out).mono ?_);(case side1=>repeat (first|exact (Kd.R_reads' HO163.out).2.2|(with_reducible refine Kd.C_alloc ?_ _)|(with_reducible refine Kd.C_drewN ?_ _)|(with_reducible refine Kd.C_drew ?_)));(case side2=>exact (Kd.R_reads' HO163.out).2.1);(case side3=>repeat (first|exact (Kd.R_reads' HO165.out).2.2|(with_reducible refine Kd.C_alloc ?_ _)|(with_reducible refine Kd.C_drewN ?_ _)|(with_reducible refine Kd.C_drew ?_)));(case side4=>exact (Kd.R_reads' HO165.out).2.1);rintro e w' ⟨rfl,⟨nd,rfl⟩⟩;refine ⟨_,rfl,?_⟩))
  go_ret2
  exact ⟨by first|rfl|(simp [errW_none,errW_some]<;>rfl)|(simp [*,errW_none,errW_some]<;>rfl),by repeat (first|(with_reducible first|exact HB.out|apply below_alloc|apply pw_below_drewN|apply below_drew1)|exact HB.out)⟩
 ·rw [if_neg c4] at H
  have c4b0:(t161 == 0) = false:=beq_eq_false_iff_ne.mpr c4
  have c4b1:(t161 != 0) = true:=bne_iff_ne.mpr c4
  simp only [Option.some.injEq,Prod.mk.injEq] at H
  obtain ⟨rfl,rfl⟩:=H
  go_enter Tryd.func13,Tryd.ntmps13
  go_wp2_with (first|((with_reducible refine gate_callee (f:=33) rfl ?_);refine goesL_ (some 12) rfl rfl Tryd.func33 (by kernel_rfl) rfl #[.string a0,.string a1] rfl (by (try simp only [List.map_toArray,List.map_cons,List.map_nil]);first|done|rfl|(simp only [List.length_drop,List.length_take];rfl)) ?_;(with_reducible refine (natural_both.calls k a0 a1 t159 t160 t161 _ A3.out).mono ?_);rintro e w9 ⟨v162,v164,rfl,ho0,ho1,hb⟩;refine ⟨_,rfl,?_⟩;have n0_:=Aside0.mk (Kd.R_lower ho0 (below_size (by repeat (first|(with_reducible first|exact HB.out|apply below_alloc|apply pw_below_drewN|apply below_drew1)|exact HB.out))));have n1_:=Aside0.mk (Kd.R_lower ho1 (below_size (by repeat (first|(with_reducible first|exact HB.out|apply below_alloc|apply pw_below_drewN|apply below_drew1)|exact HB.out))));have n2_:=Aside0.mk (below_step (by repeat (first|(with_reducible first|exact HB.out|apply below_alloc|apply pw_below_drewN|apply below_drew1)|exact HB.out)) hb);clear HB;have HO163:=n0_;have HO165:=n1_;have HB:=n2_;clear n0_ n1_ n2_;(try clear hb);(try clear hb2);(try clear hk);(try clear hi);(try clear ho0);(try clear ho1)))
  go_ret2
  exact ⟨by first|rfl|(simp [errW_none,errW_some]<;>rfl)|(simp [*,errW_none,errW_some]<;>rfl),by repeat (first|(with_reducible first|exact HB.out|apply below_alloc|apply pw_below_drewN|apply below_drew1)|exact HB.out)⟩
end Go.Proofs.YtaopmkcghancmaaDoor.Pr
namespace Go.Proofs.YtaopmkcghancmaaDoor.Pr
open Go.RowKit Go.Proofs.YtaopmkcghancmaaDoorW.PrintWords Go.Proofs.YtaopmkcghancmaaDoorW.PrintLast Go.Proofs.YtaopmkcghancmaaDoorW.PrintMore
attribute [local go_sem] max2_int min2_int max_two min_two max_three min_three max_four min_four
set_option linter.unusedVariables false
set_option linter.unusedSimpArgs false
def natural_DivMod.f (k:Nat) (a0:ByteArray) (a1:ByteArray):Option (ByteArray × ByteArray × Int):=(natural_both.f k a0 a1).bind fun bt202=>(if bt202.2.2 = 0 then (if (bt202.2.1.length:Int) = 0 then (some ((⟨#[]⟩:ByteArray),(⟨#[]⟩:ByteArray),16)) else ((natural_num_divide.f bt202.1 bt202.2.1).bind fun bt209=>((natural_num_text.f bt209.1).bind fun t215=>((natural_num_text.f bt209.2).bind fun t216=>(some (t215,t216,0)))))) else (some ((⟨#[]⟩:ByteArray),(⟨#[]⟩:ByteArray),bt202.2.2)))
set_option maxHeartbeats 8000000 in
set_option maxRecDepth 100000 in
theorem natural_DivMod.calls (k:Nat) (a0:ByteArray) (a1:ByteArray) (r1:ByteArray) (r2:ByteArray) (r3:Int) (w:World) (hL:LaidW w) (h:natural_DivMod.f k a0 a1 = some (r1,r2,r3)) :
  Calls Tryd.prog 23 #[.string a0,.string a1] w fun e w'=>e = .returned (.tuple #[.string r1,.string r2,.int .i64 r3])∧Below w.heap.size w w':=by
 have HB:=Aside0.mk (Below.refl w.heap.size w)
 have HLW:=Aside0.mk hL
 clear hL
 have H:((natural_both.f k a0 a1).bind fun bt202=>(if bt202.2.2 = 0 then (if (bt202.2.1.length:Int) = 0 then (some ((⟨#[]⟩:ByteArray),(⟨#[]⟩:ByteArray),16)) else ((natural_num_divide.f bt202.1 bt202.2.1).bind fun bt209=>((natural_num_text.f bt209.1).bind fun t215=>((natural_num_text.f bt209.2).bind fun t216=>(some (t215,t216,0)))))) else (some ((⟨#[]⟩:ByteArray),(⟨#[]⟩:ByteArray),bt202.2.2)))) = some (r1,r2,r3):=h
 clear h
 replace H:=Option.bind_eq_some_iff.mp H
 obtain ⟨⟨t202,t203,t204⟩,A30,H⟩:=H
 replace H:(if t204 = 0 then (if (t203.length:Int) = 0 then (some ((⟨#[]⟩:ByteArray),(⟨#[]⟩:ByteArray),16)) else ((natural_num_divide.f t202 t203).bind fun bt209=>((natural_num_text.f bt209.1).bind fun t215=>((natural_num_text.f bt209.2).bind fun t216=>(some (t215,t216,0)))))) else (some ((⟨#[]⟩:ByteArray),(⟨#[]⟩:ByteArray),t204))) = some (r1,r2,r3):=H
 have A3:=Aside0.mk A30
 clear A30
 by_cases c4:t204 = 0
 ·rw [if_pos c4] at H
  have c4b0:(t204 == 0) = true:=beq_iff_eq.mpr c4
  have c4b1:(t204 != 0) = false:=bne_eq_false_iff_eq.mpr c4
  clear c4
  by_cases c5:(t203.length:Int) = 0
  ·rw [if_pos c5] at H
   have c5b0:((t203.length:Int) == 0) = true:=beq_iff_eq.mpr c5
   have c5b1:((t203.length:Int) != 0) = false:=bne_eq_false_iff_eq.mpr c5
   clear c5
   simp only [Option.some.injEq,Prod.mk.injEq] at H
   obtain ⟨rfl,rfl,rfl⟩:=H
   go_enter Tryd.func23,Tryd.ntmps23
   go_wp2_with (first|((with_reducible refine gate_callee (f:=33) rfl ?_);refine goesL_ (some 15) rfl rfl Tryd.func33 (by kernel_rfl) rfl #[.string a0,.string a1] rfl (by (try simp only [List.map_toArray,List.map_cons,List.map_nil]);first|done|rfl|(simp only [List.length_drop,List.length_take];rfl)) ?_;(with_reducible refine (natural_both.calls k a0 a1 t202 t203 t204 _ A3.out).mono ?_);rintro e w6 ⟨v205,v207,rfl,ho0,ho1,hb⟩;refine ⟨_,rfl,?_⟩;have n0_:=Aside0.mk (Kd.R_lower ho0 (below_size (by repeat (first|(with_reducible first|exact HB.out|apply below_alloc|apply pw_below_drewN|apply below_drew1)|exact HB.out))));have n1_:=Aside0.mk (Kd.R_lower ho1 (below_size (by repeat (first|(with_reducible first|exact HB.out|apply below_alloc|apply pw_below_drewN|apply below_drew1)|exact HB.out))));have n2_:=Aside0.mk (below_step (by repeat (first|(with_reducible first|exact HB.out|apply below_alloc|apply pw_below_drewN|apply below_drew1)|exact HB.out)) hb);clear HB;have HO206:=n0_;have HO208:=n1_;have HB:=n2_;clear n0_ n1_ n2_;(try clear hb);(try clear hb2);(try clear hk);(try clear hi);(try clear ho0);(try clear ho1);obtain ⟨Ao7,co7,eo7⟩:=Kd.R_slice HO208.out;subst eo7))
   go_ret3
   exact ⟨by first|rfl|(simp [errW_none,errW_some]<;>rfl)|(simp [*,errW_none,errW_some]<;>rfl),by repeat (first|(with_reducible first|exact HB.out|apply below_alloc|apply pw_below_drewN|apply below_drew1)|exact HB.out)⟩
  ·rw [if_neg c5] at H
   have c5b0:((t203.length:Int) == 0) = false:=beq_eq_false_iff_ne.mpr c5
   have c5b1:((t203.length:Int) != 0) = true:=bne_iff_ne.mpr c5
   have c5b2:¬ (t203 = []):=fun h_=>c5 (by rw [h_];rfl)
   replace H:=Option.bind_eq_some_iff.mp H
   obtain ⟨⟨t209,t212⟩,A80,H⟩:=H
   replace H:((natural_num_text.f t209).bind fun t215=>((natural_num_text.f t212).bind fun t216=>(some (t215,t216,0)))) = some (r1,r2,r3):=H
   have A8:=Aside0.mk A80
   clear A80
   replace H:=Option.bind_eq_some_iff.mp H
   obtain ⟨t215,A90,H⟩:=H
   replace H:((natural_num_text.f t212).bind fun t216=>(some (t215,t216,0))) = some (r1,r2,r3):=H
   have A9:=Aside0.mk A90
   clear A90
   replace H:=Option.bind_eq_some_iff.mp H
   obtain ⟨t216,A100,H⟩:=H
   replace H:(some (t215,t216,0)) = some (r1,r2,r3):=H
   have A10:=Aside0.mk A100
   clear A100
   simp only [Option.some.injEq,Prod.mk.injEq] at H
   obtain ⟨rfl,rfl,rfl⟩:=H
   go_enter Tryd.func23,Tryd.ntmps23
   go_wp2_with (first|((with_reducible refine gate_callee (f:=33) rfl ?_);refine goesL_ (some 15) rfl rfl Tryd.func33 (by kernel_rfl) rfl #[.string a0,.string a1] rfl (by (try simp only [List.map_toArray,List.map_cons,List.map_nil]);first|done|rfl|(simp only [List.length_drop,List.length_take];rfl)) ?_;(with_reducible refine (natural_both.calls k a0 a1 t202 t203 t204 _ A3.out).mono ?_);rintro e w11 ⟨v205,v207,rfl,ho0,ho1,hb⟩;refine ⟨_,rfl,?_⟩;have n0_:=Aside0.mk (Kd.R_lower ho0 (below_size (by repeat (first|(with_reducible first|exact HB.out|apply below_alloc|apply pw_below_drewN|apply below_drew1)|exact HB.out))));have n1_:=Aside0.mk (Kd.R_lower ho1 (below_size (by repeat (first|(with_reducible first|exact HB.out|apply below_alloc|apply pw_below_drewN|apply below_drew1)|exact HB.out))));have n2_:=Aside0.mk (below_step (by repeat (first|(with_reducible first|exact HB.out|apply below_alloc|apply pw_below_drewN|apply below_drew1)|exact HB.out)) hb);clear HB;have HO206:=n0_;have HO208:=n1_;have HB:=n2_;clear n0_ n1_ n2_;(try clear hb);(try clear hb2);(try clear hk);(try clear hi);(try clear ho0);(try clear ho1);obtain ⟨Ao12,co12,eo12⟩:=Kd.R_slice HO208.out;subst eo12;obtain ⟨Ao13,co13,eo13⟩:=Kd.R_slice HO206.out;subst eo13)|((with_reducible refine gate_callee (f:=45) rfl ?_);refine goesL_ (some 30) rfl rfl Tryd.func45 (by kernel_rfl) rfl #[.slice Ao13 t202.length co13,.slice Ao12 t203.length co12] rfl (by (try simp only [List.map_toArray,List.map_cons,List.map_nil]);first|done|rfl|(simp only [List.length_drop,List.length_take];rfl)) ?_;(with_reducible refine (natural_num_divide.calls (fun k_=>some k_ = (.slice Ao13 t202.length co13:Value).ownBlock) _ _ t202 _ _ t203 t209 t212 _ ?side1 ?side2 ?side3 A8.out).mono ?_);(case side1=>exact Kd.R_V (Kd.R_tight rfl (HO206.out)));(case side2=>repeat (first|exact (Kd.R_reads' HO208.out).2.2|(with_reducible refine Kd.C_alloc ?_ _)|(with_reducible refine Kd.C_drewN ?_ _)|(with_reducible refine Kd.C_drew ?_)));(case side3=>exact (Kd.R_reads' HO208.out).2.1);rintro e w14 ⟨v210,v213,rfl,ho0,ho1,hb⟩;refine ⟨_,rfl,?_⟩;have n0_:=Aside0.mk (Kd.R_elder' (by (with_reducible repeat (first|apply Kd.R_alloc|apply Kd.R_drewN|apply Kd.R_drew));exact HO206.out) (Kd.R_base ho0) hb);have n1_:=Aside0.mk (Kd.R_elder' (by (with_reducible repeat (first|apply Kd.R_alloc|apply Kd.R_drewN|apply Kd.R_drew));exact HO208.out) (Kd.R_base ho0) hb);have n2_:=Aside0.mk (Kd.R_lower (Kd.R_new' (Kd.R_new' (Kd.R_mono (ok':=fun k_=>True) ho0 (fun _ hk_=>trivial)) (Kd.R_lt (by (with_reducible repeat (first|apply Kd.R_alloc|apply Kd.R_drewN|apply Kd.R_drew));exact HO206.out))) (Kd.R_lt (by (with_reducible repeat (first|apply Kd.R_alloc|apply Kd.R_drewN|apply Kd.R_drew));exact HO208.out))) (below_size (by repeat (first|(with_reducible first|exact HB.out|apply below_alloc|apply pw_below_drewN|apply below_drew1)|exact HB.out))));have n3_:=Aside0.mk (Kd.V_lower (Kd.V_mono (ok':=fun k_=>some k_≠(v210:Value).ownBlock∧some k_≠(.slice Ao12 t203.length co12:Value).ownBlock) ho1 (fun k_ hk_=>⟨hk_.2,Or.elim hk_.1 (fun hs_=>((HO206.out).1 k_ hs_.symm)) (fun hn_=>(Kd.fresh' (Kd.R_lt (by (with_reducible repeat (first|apply Kd.R_alloc|apply Kd.R_drewN|apply Kd.R_drew));exact HO208.out)) k_ hn_))⟩)) (below_size (by repeat (first|(with_reducible first|exact HB.out|apply below_alloc|apply pw_below_drewN|apply below_drew1)|exact HB.out))));have n4_:=Aside0.mk (below_step (by repeat (first|(with_reducible first|exact HB.out|apply below_alloc|apply pw_below_drewN|apply below_drew1)|exact HB.out)) hb);clear HO206;clear HO208;clear HB;have HO206:=n0_;have HO208:=n1_;have HO211:=n2_;have HO214:=n3_;have HB:=n4_;clear n0_ n1_ n2_ n3_ n4_;(try clear hb);(try clear hb2);(try clear hk);(try clear hi);(try clear ho0);(try clear ho1);obtain ⟨Ao15,co15,eo15⟩:=Kd.R_slice HO211.out;subst eo15)|((with_reducible refine gate_callee (f:=46) rfl ?_);refine goesL_ (some 34) rfl rfl Tryd.func46 (by kernel_rfl) rfl #[.slice Ao15 t209.length co15] rfl (by (try simp only [List.map_toArray,List.map_cons,List.map_nil]);first|done|rfl|(simp only [List.length_drop,List.length_take];rfl)) ?_;(with_reducible refine (natural_num_text.calls _ _ t209 t215 _ ?side1 ?side2 ?side3 A9.out).mono ?_);(case side1=>repeat (first|exact (Kd.R_reads' HO211.out).2.2|(with_reducible refine Kd.C_alloc ?_ _)|(with_reducible refine Kd.C_drewN ?_ _)|(with_reducible refine Kd.C_drew ?_)));(case side2=>exact (Kd.R_reads' HO211.out).2.1);(case side3=>exact HLW.out.below (by repeat (first|(with_reducible first|exact HB.out|apply below_alloc|apply pw_below_drewN|apply below_drew1)|exact HB.out)));rintro e w16 ⟨rfl,hb⟩;refine ⟨_,rfl,?_⟩;have n0_:=Aside0.mk (Kd.R_below (by (with_reducible repeat (first|apply Kd.R_alloc|apply Kd.R_drewN|apply Kd.R_drew));exact HO206.out) hb);have n1_:=Aside0.mk (Kd.R_below (by (with_reducible repeat (first|apply Kd.R_alloc|apply Kd.R_drewN|apply Kd.R_drew));exact HO208.out) hb);have n2_:=Aside0.mk (Kd.R_below (by (with_reducible repeat (first|apply Kd.R_alloc|apply Kd.R_drewN|apply Kd.R_drew));exact HO211.out) hb);have n3_:=Aside0.mk (Kd.V_below (by (with_reducible repeat (first|apply Kd.V_alloc|apply Kd.V_drewN|apply Kd.V_drew));exact HO214.out) hb);have n4_:=Aside0.mk (below_step (by repeat (first|(with_reducible first|exact HB.out|apply below_alloc|apply pw_below_drewN|apply below_drew1)|exact HB.out)) hb);clear HO206;clear HO208;clear HO211;clear HO214;clear HB;have HO206:=n0_;have HO208:=n1_;have HO211:=n2_;have HO214:=n3_;have HB:=n4_;clear n0_ n1_ n2_ n3_ n4_;(try clear hb);(try clear hb2);(try clear hk);(try clear hi);obtain ⟨Ao17,co17,eo17⟩:=Kd.V_slice HO214.out;subst eo17)|((with_reducible refine gate_callee (f:=46) rfl ?_);refine goesL_ (some 36) rfl rfl Tryd.func46 (by kernel_rfl) rfl #[.slice Ao17 t212.length co17] rfl (by (try simp only [List.map_toArray,List.map_cons,List.map_nil]);first|done|rfl|(simp only [List.length_drop,List.length_take];rfl)) ?_;(with_reducible refine (natural_num_text.calls _ _ t212 t216 _ ?side1 ?side2 ?side3 A10.out).mono ?_);(case side1=>repeat (first|exact (Kd.V_reads' HO214.out).2.2|(with_reducible refine Kd.C_alloc ?_ _)|(with_reducible refine Kd.C_drewN ?_ _)|(with_reducible refine Kd.C_drew ?_)));(case side2=>exact (Kd.V_reads' HO214.out).2.1);(case side3=>exact HLW.out.below (by repeat (first|(with_reducible first|exact HB.out|apply below_alloc|apply pw_below_drewN|apply below_drew1)|exact HB.out)));rintro e w18 ⟨rfl,hb⟩;refine ⟨_,rfl,?_⟩;have n0_:=Aside0.mk (Kd.R_below (by (with_reducible repeat (first|apply Kd.R_alloc|apply Kd.R_drewN|apply Kd.R_drew));exact HO206.out) hb);have n1_:=Aside0.mk (Kd.R_below (by (with_reducible repeat (first|apply Kd.R_alloc|apply Kd.R_drewN|apply Kd.R_drew));exact HO208.out) hb);have n2_:=Aside0.mk (Kd.R_below (by (with_reducible repeat (first|apply Kd.R_alloc|apply Kd.R_drewN|apply Kd.R_drew));exact HO211.out) hb);have n3_:=Aside0.mk (Kd.V_below (by (with_reducible repeat (first|apply Kd.V_alloc|apply Kd.V_drewN|apply Kd.V_drew));exact HO214.out) hb);have n4_:=Aside0.mk (below_step (by repeat (first|(with_reducible first|exact HB.out|apply below_alloc|apply pw_below_drewN|apply below_drew1)|exact HB.out)) hb);clear HO206;clear HO208;clear HO211;clear HO214;clear HB;have HO206:=n0_;have HO208:=n1_;have HO211:=n2_;have HO214:=n3_;have HB:=n4_;clear n0_ n1_ n2_ n3_ n4_;(try clear hb);(try clear hb2);(try clear hk);(try clear hi)))
   go_ret3
   exact ⟨by first|rfl|(simp [errW_none,errW_some]<;>rfl)|(simp [*,errW_none,errW_some]<;>rfl),by repeat (first|(with_reducible first|exact HB.out|apply below_alloc|apply pw_below_drewN|apply below_drew1)|exact HB.out)⟩
 ·rw [if_neg c4] at H
  have c4b0:(t204 == 0) = false:=beq_eq_false_iff_ne.mpr c4
  have c4b1:(t204 != 0) = true:=bne_iff_ne.mpr c4
  simp only [Option.some.injEq,Prod.mk.injEq] at H
  obtain ⟨rfl,rfl,rfl⟩:=H
  go_enter Tryd.func23,Tryd.ntmps23
  go_wp2_with (first|((with_reducible refine gate_callee (f:=33) rfl ?_);refine goesL_ (some 15) rfl rfl Tryd.func33 (by kernel_rfl) rfl #[.string a0,.string a1] rfl (by (try simp only [List.map_toArray,List.map_cons,List.map_nil]);first|done|rfl|(simp only [List.length_drop,List.length_take];rfl)) ?_;(with_reducible refine (natural_both.calls k a0 a1 t202 t203 t204 _ A3.out).mono ?_);rintro e w19 ⟨v205,v207,rfl,ho0,ho1,hb⟩;refine ⟨_,rfl,?_⟩;have n0_:=Aside0.mk (Kd.R_lower ho0 (below_size (by repeat (first|(with_reducible first|exact HB.out|apply below_alloc|apply pw_below_drewN|apply below_drew1)|exact HB.out))));have n1_:=Aside0.mk (Kd.R_lower ho1 (below_size (by repeat (first|(with_reducible first|exact HB.out|apply below_alloc|apply pw_below_drewN|apply below_drew1)|exact HB.out))));have n2_:=Aside0.mk (below_step (by repeat (first|(with_reducible first|exact HB.out|apply below_alloc|apply pw_below_drewN|apply below_drew1)|exact HB.out)) hb);clear HB;have HO206:=n0_;have HO208:=n1_;have HB:=n2_;clear n0_ n1_ n2_;(try clear hb);(try clear hb2);(try clear hk);(try clear hi);(try clear ho0);(try clear ho1)))
  go_ret3
  exact ⟨by first|rfl|(simp [errW_none,errW_some]<;>rfl)|(simp [*,errW_none,errW_some]<;>rfl),by repeat (first|(with_reducible first|exact HB.out|apply below_alloc|apply pw_below_drewN|apply below_drew1)|exact HB.out)⟩
end Go.Proofs.YtaopmkcghancmaaDoor.Pr
namespace Go.Proofs.YtaopmkcghancmaaDoor.Pr
open Go.RowKit Go.Proofs.YtaopmkcghancmaaDoorW.PrintWords Go.Proofs.YtaopmkcghancmaaDoorW.PrintLast Go.Proofs.YtaopmkcghancmaaDoorW.PrintMore
attribute [local go_sem] max2_int min2_int max_two min_two max_three min_three max_four min_four
set_option linter.unusedVariables false
set_option linter.unusedSimpArgs false
def natural_Root.l0:Nat→List Int→List Int→Option (ByteArray × Int)
 | 0,_,_=>none
 | k + 1,x4,x5=>(natural_num_divide.f x4 x5).bind fun bt228=>((natural_num_plus.f x5 bt228.1).bind fun t234=>((natural_num_by.f k t234 2).bind fun bt237=>((natural_num_compare.f k bt237.1 x5).bind fun t243=>(if t243 ≥ 0 then ((natural_num_text.f x5).bind fun t244=>(some (t244,0))) else (natural_Root.l0 k x4 bt237.1)))))
def natural_Root.f (k:Nat) (a0:ByteArray):Option (ByteArray × Int):=(natural_Valid.f k a0).bind fun t220=>(if t220 = true then ((natural_read.f a0).bind fun t221=>(if (t221.length:Int) = 0 then (some ((⟨#[48]⟩:ByteArray),0)) else ((strings_Repeat.f (⟨#[48]⟩:ByteArray) (wrap64 (Int.tdiv (wrap64 ((a0.size:Int) + 1)) 2))).bind fun t224=>(if 1 + t224.size≤9223372036854775807 then ((natural_read.f ((⟨#[49]⟩:ByteArray) ++ t224)).bind fun t225=>(natural_Root.l0 k t221 t225)) else (none))))) else (some ((⟨#[]⟩:ByteArray),1)))
set_option maxHeartbeats 8000000 in
set_option maxRecDepth 100000 in
theorem natural_Root.calls (k:Nat) (a0:ByteArray) (r1:ByteArray) (r2:Int) (w:World) (hL:LaidW w) (h:natural_Root.f k a0 = some (r1,r2)) :
  Calls Tryd.prog 27 #[.string a0] w fun e w'=>e = .returned (.tuple #[.string r1,.int .i64 r2])∧Below w.heap.size w w':=by
 have HB:=Aside0.mk (Below.refl w.heap.size w)
 have HLW:=Aside0.mk hL
 clear hL
 have H:((natural_Valid.f k a0).bind fun t220=>(if t220 = true then ((natural_read.f a0).bind fun t221=>(if (t221.length:Int) = 0 then (some ((⟨#[48]⟩:ByteArray),0)) else ((strings_Repeat.f (⟨#[48]⟩:ByteArray) (wrap64 (Int.tdiv (wrap64 ((a0.size:Int) + 1)) 2))).bind fun t224=>(if 1 + t224.size≤9223372036854775807 then ((natural_read.f ((⟨#[49]⟩:ByteArray) ++ t224)).bind fun t225=>(natural_Root.l0 k t221 t225)) else (none))))) else (some ((⟨#[]⟩:ByteArray),1)))) = some (r1,r2):=h
 clear h
 replace H:=Option.bind_eq_some_iff.mp H
 obtain ⟨t220,A20,H⟩:=H
 replace H:(if t220 = true then ((natural_read.f a0).bind fun t221=>(if (t221.length:Int) = 0 then (some ((⟨#[48]⟩:ByteArray),0)) else ((strings_Repeat.f (⟨#[48]⟩:ByteArray) (wrap64 (Int.tdiv (wrap64 ((a0.size:Int) + 1)) 2))).bind fun t224=>(if 1 + t224.size≤9223372036854775807 then ((natural_read.f ((⟨#[49]⟩:ByteArray) ++ t224)).bind fun t225=>(natural_Root.l0 k t221 t225)) else (none))))) else (some ((⟨#[]⟩:ByteArray),1))) = some (r1,r2):=H
 have A2:=Aside0.mk A20
 clear A20
 by_cases c3:t220 = true
 ·subst c3
  have H1:((natural_read.f a0).bind fun t221=>(if (t221.length:Int) = 0 then (some ((⟨#[48]⟩:ByteArray),0)) else ((strings_Repeat.f (⟨#[48]⟩:ByteArray) (wrap64 (Int.tdiv (wrap64 ((a0.size:Int) + 1)) 2))).bind fun t224=>(if 1 + t224.size≤9223372036854775807 then ((natural_read.f ((⟨#[49]⟩:ByteArray) ++ t224)).bind fun t225=>(natural_Root.l0 k t221 t225)) else (none))))) = some (r1,r2):=by rw [if_pos rfl] at H;exact H
  clear H
  have H:=H1
  clear H1
  replace H:=Option.bind_eq_some_iff.mp H
  obtain ⟨t221,A40,H⟩:=H
  replace H:(if (t221.length:Int) = 0 then (some ((⟨#[48]⟩:ByteArray),0)) else ((strings_Repeat.f (⟨#[48]⟩:ByteArray) (wrap64 (Int.tdiv (wrap64 ((a0.size:Int) + 1)) 2))).bind fun t224=>(if 1 + t224.size≤9223372036854775807 then ((natural_read.f ((⟨#[49]⟩:ByteArray) ++ t224)).bind fun t225=>(natural_Root.l0 k t221 t225)) else (none)))) = some (r1,r2):=H
  have A4:=Aside0.mk A40
  clear A40
  by_cases c5:(t221.length:Int) = 0
  ·rw [if_pos c5] at H
   have c5b0:((t221.length:Int) == 0) = true:=beq_iff_eq.mpr c5
   have c5b1:((t221.length:Int) != 0) = false:=bne_eq_false_iff_eq.mpr c5
   clear c5
   simp only [Option.some.injEq,Prod.mk.injEq] at H
   obtain ⟨rfl,rfl⟩:=H
   go_enter Tryd.func27,Tryd.ntmps27
   go_wp2_with (first|((with_reducible refine gate_callee (f:=15) rfl ?_);refine goesL_ (some 11) rfl rfl Tryd.func15 (by kernel_rfl) rfl #[.string a0] rfl (by (try simp only [List.map_toArray,List.map_cons,List.map_nil]);first|done|rfl|(simp only [List.length_drop,List.length_take];rfl)) ?_;(with_reducible refine (natural_Valid.calls k a0 true _ A2.out).mono ?_);rintro e w' ⟨rfl,⟨nd,rfl⟩⟩;refine ⟨_,rfl,?_⟩)|((with_reducible refine gate_callee (f:=50) rfl ?_);refine goesL_ (some 14) rfl rfl Tryd.func50 (by kernel_rfl) rfl #[.string a0] rfl (by (try simp only [List.map_toArray,List.map_cons,List.map_nil]);first|done|rfl|(simp only [List.length_drop,List.length_take];rfl)) ?_;(with_reducible refine (natural_read.calls a0 t221 _ A4.out).mono ?_);rintro e w6 ⟨v222,rfl,ho0,hb⟩;refine ⟨_,rfl,?_⟩;have n0_:=Aside0.mk (Kd.R_lower ho0 (below_size (by repeat (first|(with_reducible first|exact HB.out|apply below_alloc|apply pw_below_drewN|apply below_drew1)|exact HB.out))));have n1_:=Aside0.mk (below_step (by repeat (first|(with_reducible first|exact HB.out|apply below_alloc|apply pw_below_drewN|apply below_drew1)|exact HB.out)) hb);clear HB;have HO223:=n0_;have HB:=n1_;clear n0_ n1_;(try clear hb);(try clear hb2);(try clear hk);(try clear hi);(try clear ho0);obtain ⟨Ao7,co7,eo7⟩:=Kd.R_slice HO223.out;subst eo7))
   go_ret2
   exact ⟨by first|rfl|(simp [errW_none,errW_some]<;>rfl)|(simp [*,errW_none,errW_some]<;>rfl),by repeat (first|(with_reducible first|exact HB.out|apply below_alloc|apply pw_below_drewN|apply below_drew1)|exact HB.out)⟩
  ·rw [if_neg c5] at H
   have c5b0:((t221.length:Int) == 0) = false:=beq_eq_false_iff_ne.mpr c5
   have c5b1:((t221.length:Int) != 0) = true:=bne_iff_ne.mpr c5
   have c5b2:¬ (t221 = []):=fun h_=>c5 (by rw [h_];rfl)
   replace H:=Option.bind_eq_some_iff.mp H
   obtain ⟨t224,A80,H⟩:=H
   replace H:(if 1 + t224.size≤9223372036854775807 then ((natural_read.f ((⟨#[49]⟩:ByteArray) ++ t224)).bind fun t225=>(natural_Root.l0 k t221 t225)) else (none)) = some (r1,r2):=H
   have A8:=Aside0.mk A80
   clear A80
   by_cases c9:1 + t224.size≤9223372036854775807
   ·rw [if_pos c9] at H
    have c9b0:=eq_true c9
    have c9b1:decide (1 + t224.size≤9223372036854775807) = true:=decide_eq_true c9
    try have c9b2:(9223372036854775807 < 1 + t224.size) = False:=eq_false (Nat.not_lt.2 c9)
    replace H:=Option.bind_eq_some_iff.mp H
    obtain ⟨t225,A100,H⟩:=H
    replace H:(natural_Root.l0 k t221 t225) = some (r1,r2):=H
    have A10:=Aside0.mk A100
    clear A100
    have H':=Aside0.mk H
    clear H
    go_enter Tryd.func27,Tryd.ntmps27
    go_wp2_with (first|((with_reducible refine gate_callee (f:=15) rfl ?_);refine goesL_ (some 11) rfl rfl Tryd.func15 (by kernel_rfl) rfl #[.string a0] rfl (by (try simp only [List.map_toArray,List.map_cons,List.map_nil]);first|done|rfl|(simp only [List.length_drop,List.length_take];rfl)) ?_;(with_reducible refine (natural_Valid.calls k a0 true _ A2.out).mono ?_);rintro e w' ⟨rfl,⟨nd,rfl⟩⟩;refine ⟨_,rfl,?_⟩)|((with_reducible refine gate_callee (f:=50) rfl ?_);refine goesL_ (some 14) rfl rfl Tryd.func50 (by kernel_rfl) rfl #[.string a0] rfl (by (try simp only [List.map_toArray,List.map_cons,List.map_nil]);first|done|rfl|(simp only [List.length_drop,List.length_take];rfl)) ?_;(with_reducible refine (natural_read.calls a0 t221 _ A4.out).mono ?_);rintro e w11 ⟨v222,rfl,ho0,hb⟩;refine ⟨_,rfl,?_⟩;have n0_:=Aside0.mk (Kd.R_lower ho0 (below_size (by repeat (first|(with_reducible first|exact HB.out|apply below_alloc|apply pw_below_drewN|apply below_drew1)|exact HB.out))));have n1_:=Aside0.mk (below_step (by repeat (first|(with_reducible first|exact HB.out|apply below_alloc|apply pw_below_drewN|apply below_drew1)|exact HB.out)) hb);clear HB;have HO223:=n0_;have HB:=n1_;clear n0_ n1_;(try clear hb);(try clear hb2);(try clear hk);(try clear hi);(try clear ho0);obtain ⟨Ao12,co12,eo12⟩:=Kd.R_slice HO223.out;subst eo12)|((with_reducible refine gate_callee (f:=51) rfl ?_);refine goesL_ (some 22) rfl rfl Tryd.func51 (by kernel_rfl) rfl #[.string (⟨#[48]⟩:ByteArray),.int .i64 (wrap64 (Int.tdiv (wrap64 ((a0.size:Int) + 1)) 2))] rfl (by (try simp only [List.map_toArray,List.map_cons,List.map_nil]);first|done|rfl|(simp only [List.length_drop,List.length_take];rfl)) ?_;(with_reducible refine (strings_Repeat.calls (⟨#[48]⟩:ByteArray) (wrap64 (Int.tdiv (wrap64 ((a0.size:Int) + 1)) 2)) t224 _ A8.out).mono ?_);rintro e w13 ⟨rfl,hb⟩;refine ⟨_,rfl,?_⟩;have n0_:=Aside0.mk (Kd.R_below (by (with_reducible repeat (first|apply Kd.R_alloc|apply Kd.R_drewN|apply Kd.R_drew));exact HO223.out) hb);have n1_:=Aside0.mk (below_step (by repeat (first|(with_reducible first|exact HB.out|apply below_alloc|apply pw_below_drewN|apply below_drew1)|exact HB.out)) hb);clear HO223;clear HB;have HO223:=n0_;have HB:=n1_;clear n0_ n1_;(try clear hb);(try clear hb2);(try clear hk);(try clear hi))|((with_reducible refine gate_callee (f:=50) rfl ?_);refine goesL_ (some 24) rfl rfl Tryd.func50 (by kernel_rfl) rfl #[.string ((⟨#[49]⟩:ByteArray) ++ t224)] rfl (by (try simp only [List.map_toArray,List.map_cons,List.map_nil]);first|done|rfl|(simp only [List.length_drop,List.length_take];rfl)) ?_;(with_reducible refine (natural_read.calls ((⟨#[49]⟩:ByteArray) ++ t224) t225 _ A10.out).mono ?_);rintro e w14 ⟨v226,rfl,ho0,hb⟩;refine ⟨_,rfl,?_⟩;have n0_:=Aside0.mk (Kd.R_elder' (by (with_reducible repeat (first|apply Kd.R_alloc|apply Kd.R_drewN|apply Kd.R_drew));exact HO223.out) (Kd.R_base ho0) hb);have n1_:=Aside0.mk (Kd.R_lower (Kd.R_new' ho0 (Kd.R_lt (by (with_reducible repeat (first|apply Kd.R_alloc|apply Kd.R_drewN|apply Kd.R_drew));exact HO223.out))) (below_size (by repeat (first|(with_reducible first|exact HB.out|apply below_alloc|apply pw_below_drewN|apply below_drew1)|exact HB.out))));have n2_:=Aside0.mk (below_step (by repeat (first|(with_reducible first|exact HB.out|apply below_alloc|apply pw_below_drewN|apply below_drew1)|exact HB.out)) hb);clear HO223;clear HB;have HO223:=n0_;have HO227:=n1_;have HB:=n2_;clear n0_ n1_ n2_;(try clear hb);(try clear hb2);(try clear hk);(try clear hi);(try clear ho0)))
    go_loopg [5] k (fun kq v5 w'=>∃ (x5_1:List Int),Aside0 (natural_Root.l0 kq t221 x5_1 = some (r1,r2))∧Aside0 (kq≤k)∧Aside0 (Kd.R (Kd.int .u32) 64 w' w.heap.size (fun _=>True) (.slice Ao12 t221.length co12) t221)∧Aside0 (Kd.V (Kd.int .u32) 64 w' w.heap.size (fun k_=>some k_≠((.slice Ao12 t221.length co12):Value).ownBlock) v5 x5_1)∧Aside0 (Below w.heap.size w w'))
    case atStart=>exact ⟨(t225),H',⟨Nat.le_refl _⟩,⟨by (with_reducible repeat (first|apply Kd.R_alloc|apply Kd.R_drewN|apply Kd.R_drew));exact Kd.R_mono HO223.out (fun _ hk=>trivial)⟩,⟨Kd.R_V (by (with_reducible repeat (first|apply Kd.R_alloc|apply Kd.R_drewN|apply Kd.R_drew));exact Kd.R_mono HO227.out (fun _ hk=>hk.2))⟩,⟨by repeat (first|(with_reducible first|exact HB.out|apply below_alloc|apply pw_below_drewN|apply below_drew1)|exact HB.out)⟩⟩
    case round =>
     clear H'
     try clear c1
     try clear c2
     try clear p2
     try clear c3
     try clear c5
     try clear c5b0
     try clear c5b1
     try clear c5b2
     try clear p6
     try clear c9
     try clear c9b0
     try clear c9b1
     try clear c9b2
     obtain ⟨x5_1,HA,HK1,HO_4,HO_5,HB⟩:=hrel
     cases gk with
     | zero=>exact absurd HA.out (by simp [natural_Root.l0])
     | succ k1 =>
      have H:=HA.out
      clear HA
      simp only [natural_Root.l0] at H
      replace H:=Option.bind_eq_some_iff.mp H
      obtain ⟨⟨t228,t231⟩,A150,H⟩:=H
      replace H:((natural_num_plus.f x5_1 t228).bind fun t234=>((natural_num_by.f k1 t234 2).bind fun bt237=>((natural_num_compare.f k1 bt237.1 x5_1).bind fun t243=>(if t243 ≥ 0 then ((natural_num_text.f x5_1).bind fun t244=>(some (t244,0))) else (natural_Root.l0 k1 t221 bt237.1))))) = some (r1,r2):=H
      have A15:=Aside0.mk A150
      clear A150
      replace H:=Option.bind_eq_some_iff.mp H
      obtain ⟨t234,A160,H⟩:=H
      replace H:((natural_num_by.f k1 t234 2).bind fun bt237=>((natural_num_compare.f k1 bt237.1 x5_1).bind fun t243=>(if t243 ≥ 0 then ((natural_num_text.f x5_1).bind fun t244=>(some (t244,0))) else (natural_Root.l0 k1 t221 bt237.1)))) = some (r1,r2):=H
      have A16:=Aside0.mk A160
      clear A160
      replace H:=Option.bind_eq_some_iff.mp H
      obtain ⟨⟨t237,t240⟩,A170,H⟩:=H
      replace H:((natural_num_compare.f k1 t237 x5_1).bind fun t243=>(if t243 ≥ 0 then ((natural_num_text.f x5_1).bind fun t244=>(some (t244,0))) else (natural_Root.l0 k1 t221 t237))) = some (r1,r2):=H
      have A17:=Aside0.mk A170
      clear A170
      replace H:=Option.bind_eq_some_iff.mp H
      obtain ⟨t243,A180,H⟩:=H
      replace H:(if t243 ≥ 0 then ((natural_num_text.f x5_1).bind fun t244=>(some (t244,0))) else (natural_Root.l0 k1 t221 t237)) = some (r1,r2):=H
      have A18:=Aside0.mk A180
      clear A180
      by_cases c19:t243 ≥ 0
      ·rw [if_pos c19] at H
       have c19b0:decide (0≤t243) = true:=decide_eq_true c19
       clear c19
       replace H:=Option.bind_eq_some_iff.mp H
       obtain ⟨t244,A200,H⟩:=H
       replace H:(some (t244,0)) = some (r1,r2):=H
       have A20:=Aside0.mk A200
       clear A200
       simp only [Option.some.injEq,Prod.mk.injEq] at H
       obtain ⟨rfl,rfl⟩:=H
       obtain ⟨Ao21,co21,eo21⟩:=Kd.V_slice HO_5.out
       subst eo21
       go_wp2_with (first|((with_reducible refine gate_callee (f:=45) rfl ?_);refine goesL_ (some 28) rfl rfl Tryd.func45 (by kernel_rfl) rfl #[.slice Ao12 t221.length co12,.slice Ao21 x5_1.length co21] rfl (by (try simp only [List.map_toArray,List.map_cons,List.map_nil]);first|done|rfl|(simp only [List.length_drop,List.length_take];rfl)) ?_;(with_reducible refine (natural_num_divide.calls (fun k_=>some k_ = (.slice Ao12 t221.length co12:Value).ownBlock) _ _ t221 _ _ x5_1 t228 t231 _ ?side1 ?side2 ?side3 A15.out).mono ?_);(case side1=>exact Kd.R_V (Kd.R_tight rfl (HO_4.out)));(case side2=>repeat (first|exact (Kd.V_reads' HO_5.out).2.2|(with_reducible refine Kd.C_alloc ?_ _)|(with_reducible refine Kd.C_drewN ?_ _)|(with_reducible refine Kd.C_drew ?_)));(case side3=>exact (Kd.V_reads' HO_5.out).2.1);rintro e w22 ⟨v229,v232,rfl,ho0,ho1,hb⟩;refine ⟨_,rfl,?_⟩;have n0_:=Aside0.mk (Kd.R_elder' (by (with_reducible repeat (first|apply Kd.R_alloc|apply Kd.R_drewN|apply Kd.R_drew));exact HO_4.out) (Kd.R_base ho0) hb);have n1_:=Aside0.mk (Kd.V_elder' (by (with_reducible repeat (first|apply Kd.V_alloc|apply Kd.V_drewN|apply Kd.V_drew));exact HO_5.out) (Kd.R_base ho0) hb);have n2_:=Aside0.mk (Kd.R_lower (Kd.R_new' (Kd.R_mono (ok':=fun k_=>True) ho0 (fun _ hk_=>trivial)) (Kd.R_lt (by (with_reducible repeat (first|apply Kd.R_alloc|apply Kd.R_drewN|apply Kd.R_drew));exact HO_4.out))) (below_size (by repeat (first|(with_reducible first|exact HB.out|apply below_alloc|apply pw_below_drewN|apply below_drew1)|exact HB.out))));have n3_:=Aside0.mk (Kd.V_lower (Kd.V_mono (ok':=fun k_=>some k_≠(v229:Value).ownBlock) ho1 (fun k_ hk_=>hk_.2)) (below_size (by repeat (first|(with_reducible first|exact HB.out|apply below_alloc|apply pw_below_drewN|apply below_drew1)|exact HB.out))));have n4_:=Aside0.mk (below_step (by repeat (first|(with_reducible first|exact HB.out|apply below_alloc|apply pw_below_drewN|apply below_drew1)|exact HB.out)) hb);clear HO_4;clear HO_5;clear HB;have HO_4:=n0_;have HO_5:=n1_;have HO230:=n2_;have HO233:=n3_;have HB:=n4_;clear n0_ n1_ n2_ n3_ n4_;(try clear hb);(try clear hb2);(try clear hk);(try clear hi);(try clear ho0);(try clear ho1);obtain ⟨Ao23,co23,eo23⟩:=Kd.R_slice HO230.out;subst eo23)|((with_reducible refine gate_callee (f:=38) rfl ?_);refine goesL_ (some 34) rfl rfl Tryd.func38 (by kernel_rfl) rfl #[.slice Ao21 x5_1.length co21,.slice Ao23 t228.length co23] rfl (by (try simp only [List.map_toArray,List.map_cons,List.map_nil]);first|done|rfl|(simp only [List.length_drop,List.length_take];rfl)) ?_;(with_reducible refine (natural_num_plus.calls _ _ x5_1 _ _ t228 t234 _ ?side1 ?side2 ?side3 ?side4 A16.out).mono ?_);(case side1=>repeat (first|exact (Kd.V_reads' HO_5.out).2.2|(with_reducible refine Kd.C_alloc ?_ _)|(with_reducible refine Kd.C_drewN ?_ _)|(with_reducible refine Kd.C_drew ?_)));(case side2=>exact (Kd.V_reads' HO_5.out).2.1);(case side3=>repeat (first|exact (Kd.R_reads' HO230.out).2.2|(with_reducible refine Kd.C_alloc ?_ _)|(with_reducible refine Kd.C_drewN ?_ _)|(with_reducible refine Kd.C_drew ?_)));(case side4=>exact (Kd.R_reads' HO230.out).2.1);rintro e w24 ⟨v235,rfl,ho0,hb⟩;refine ⟨_,rfl,?_⟩;have n0_:=Aside0.mk (Kd.R_elder' (by (with_reducible repeat (first|apply Kd.R_alloc|apply Kd.R_drewN|apply Kd.R_drew));exact HO_4.out) (Kd.R_base ho0) hb);have n1_:=Aside0.mk (Kd.V_elder' (by (with_reducible repeat (first|apply Kd.V_alloc|apply Kd.V_drewN|apply Kd.V_drew));exact HO_5.out) (Kd.R_base ho0) hb);have n2_:=Aside0.mk (Kd.R_elder' (by (with_reducible repeat (first|apply Kd.R_alloc|apply Kd.R_drewN|apply Kd.R_drew));exact HO230.out) (Kd.R_base ho0) hb);have n3_:=Aside0.mk (Kd.V_elder' (by (with_reducible repeat (first|apply Kd.V_alloc|apply Kd.V_drewN|apply Kd.V_drew));exact HO233.out) (Kd.R_base ho0) hb);have n4_:=Aside0.mk (Kd.R_lower (Kd.R_new' (Kd.R_new' ho0 (Kd.R_lt (by (with_reducible repeat (first|apply Kd.R_alloc|apply Kd.R_drewN|apply Kd.R_drew));exact HO_4.out))) (Kd.R_lt (by (with_reducible repeat (first|apply Kd.R_alloc|apply Kd.R_drewN|apply Kd.R_drew));exact HO230.out))) (below_size (by repeat (first|(with_reducible first|exact HB.out|apply below_alloc|apply pw_below_drewN|apply below_drew1)|exact HB.out))));have n5_:=Aside0.mk (below_step (by repeat (first|(with_reducible first|exact HB.out|apply below_alloc|apply pw_below_drewN|apply below_drew1)|exact HB.out)) hb);clear HO_4;clear HO_5;clear HO230;clear HO233;clear HB;have HO_4:=n0_;have HO_5:=n1_;have HO230:=n2_;have HO233:=n3_;have HO236:=n4_;have HB:=n5_;clear n0_ n1_ n2_ n3_ n4_ n5_;(try clear hb);(try clear hb2);(try clear hk);(try clear hi);(try clear ho0);obtain ⟨Ao25,co25,eo25⟩:=Kd.R_slice HO236.out;subst eo25)|((with_reducible refine gate_callee (f:=52) rfl ?_);refine goesL_ (some 35) rfl rfl Tryd.func52 (by kernel_rfl) rfl #[.slice Ao25 t234.length co25,.int .u64 2] rfl (by (try simp only [List.map_toArray,List.map_cons,List.map_nil]);first|done|rfl|(simp only [List.length_drop,List.length_take];rfl)) ?_;(with_reducible refine (natural_num_by.calls k1 _ _ t234 2 t237 t240 _ ?side1 ?side2 A17.out).mono ?_);(case side1=>repeat (first|exact (Kd.R_reads' HO236.out).2.2|(with_reducible refine Kd.C_alloc ?_ _)|(with_reducible refine Kd.C_drewN ?_ _)|(with_reducible refine Kd.C_drew ?_)));(case side2=>exact (Kd.R_reads' HO236.out).2.1);rintro e w26 ⟨v238,v241,rfl,ho0,ho1,hb⟩;refine ⟨_,rfl,?_⟩;have n0_:=Aside0.mk (Kd.R_below (by (with_reducible repeat (first|apply Kd.R_alloc|apply Kd.R_drewN|apply Kd.R_drew));exact HO_4.out) hb);have n1_:=Aside0.mk (Kd.V_below (by (with_reducible repeat (first|apply Kd.V_alloc|apply Kd.V_drewN|apply Kd.V_drew));exact HO_5.out) hb);have n2_:=Aside0.mk (Kd.R_below (by (with_reducible repeat (first|apply Kd.R_alloc|apply Kd.R_drewN|apply Kd.R_drew));exact HO230.out) hb);have n3_:=Aside0.mk (Kd.V_below (by (with_reducible repeat (first|apply Kd.V_alloc|apply Kd.V_drewN|apply Kd.V_drew));exact HO233.out) hb);have n4_:=Aside0.mk (Kd.R_below (by (with_reducible repeat (first|apply Kd.R_alloc|apply Kd.R_drewN|apply Kd.R_drew));exact HO236.out) hb);have n5_:=Aside0.mk (Kd.V_lower (Kd.V_mono (ok':=fun k_=>some k_≠(.slice Ao12 t221.length co12:Value).ownBlock∧some k_≠(.slice Ao23 t228.length co23:Value).ownBlock∧some k_≠(.slice Ao25 t234.length co25:Value).ownBlock) ho0 (fun k_ hk_=>⟨(Kd.fresh' (Kd.R_lt (by (with_reducible repeat (first|apply Kd.R_alloc|apply Kd.R_drewN|apply Kd.R_drew));exact HO_4.out)) k_ hk_),(Kd.fresh' (Kd.R_lt (by (with_reducible repeat (first|apply Kd.R_alloc|apply Kd.R_drewN|apply Kd.R_drew));exact HO230.out)) k_ hk_),(Kd.fresh' (Kd.R_lt (by (with_reducible repeat (first|apply Kd.R_alloc|apply Kd.R_drewN|apply Kd.R_drew));exact HO236.out)) k_ hk_)⟩)) (below_size (by repeat (first|(with_reducible first|exact HB.out|apply below_alloc|apply pw_below_drewN|apply below_drew1)|exact HB.out))));have n6_:=Aside0.mk (Kd.V_lower (Kd.V_mono (ok':=fun k_=>some k_≠(.slice Ao12 t221.length co12:Value).ownBlock∧some k_≠(.slice Ao23 t228.length co23:Value).ownBlock∧some k_≠(.slice Ao25 t234.length co25:Value).ownBlock) ho1 (fun k_ hk_=>⟨(Kd.fresh' (Kd.R_lt (by (with_reducible repeat (first|apply Kd.R_alloc|apply Kd.R_drewN|apply Kd.R_drew));exact HO_4.out)) k_ hk_),(Kd.fresh' (Kd.R_lt (by (with_reducible repeat (first|apply Kd.R_alloc|apply Kd.R_drewN|apply Kd.R_drew));exact HO230.out)) k_ hk_),(Kd.fresh' (Kd.R_lt (by (with_reducible repeat (first|apply Kd.R_alloc|apply Kd.R_drewN|apply Kd.R_drew));exact HO236.out)) k_ hk_)⟩)) (below_size (by repeat (first|(with_reducible first|exact HB.out|apply below_alloc|apply pw_below_drewN|apply below_drew1)|exact HB.out))));have n7_:=Aside0.mk (below_step (by repeat (first|(with_reducible first|exact HB.out|apply below_alloc|apply pw_below_drewN|apply below_drew1)|exact HB.out)) hb);clear HO_4;clear HO_5;clear HO230;clear HO233;clear HO236;clear HB;have HO_4:=n0_;have HO_5:=n1_;have HO230:=n2_;have HO233:=n3_;have HO236:=n4_;have HO239:=n5_;have HO242:=n6_;have HB:=n7_;clear n0_ n1_ n2_ n3_ n4_ n5_ n6_ n7_;(try clear hb);(try clear hb2);(try clear hk);(try clear hi);(try clear ho0);(try clear ho1);obtain ⟨Ao27,co27,eo27⟩:=Kd.V_slice HO239.out;subst eo27)|((with_reducible refine gate_callee (f:=34) rfl ?_);refine goesL_ (some 40) rfl rfl Tryd.func34 (by kernel_rfl) rfl #[.slice Ao27 t237.length co27,.slice Ao21 x5_1.length co21] rfl (by (try simp only [List.map_toArray,List.map_cons,List.map_nil]);first|done|rfl|(simp only [List.length_drop,List.length_take];rfl)) ?_;(with_reducible refine (natural_num_compare.calls k1 _ _ t237 _ _ x5_1 t243 _ ?side1 ?side2 ?side3 ?side4 A18.out).mono ?_);(case side1=>repeat (first|exact (Kd.V_reads' HO239.out).2.2|(with_reducible refine Kd.C_alloc ?_ _)|(with_reducible refine Kd.C_drewN ?_ _)|(with_reducible refine Kd.C_drew ?_)));(case side2=>exact (Kd.V_reads' HO239.out).2.1);(case side3=>repeat (first|exact (Kd.V_reads' HO_5.out).2.2|(with_reducible refine Kd.C_alloc ?_ _)|(with_reducible refine Kd.C_drewN ?_ _)|(with_reducible refine Kd.C_drew ?_)));(case side4=>exact (Kd.V_reads' HO_5.out).2.1);rintro e w' ⟨rfl,⟨nd,rfl⟩⟩;refine ⟨_,rfl,?_⟩)|((with_reducible refine gate_callee (f:=46) rfl ?_);refine goesL_ (some 43) rfl rfl Tryd.func46 (by kernel_rfl) rfl #[.slice Ao21 x5_1.length co21] rfl (by (try simp only [List.map_toArray,List.map_cons,List.map_nil]);first|done|rfl|(simp only [List.length_drop,List.length_take];rfl)) ?_;(with_reducible refine (natural_num_text.calls _ _ x5_1 t244 _ ?side1 ?side2 ?side3 A20.out).mono ?_);(case side1=>repeat (first|exact (Kd.V_reads' HO_5.out).2.2|(with_reducible refine Kd.C_alloc ?_ _)|(with_reducible refine Kd.C_drewN ?_ _)|(with_reducible refine Kd.C_drew ?_)));(case side2=>exact (Kd.V_reads' HO_5.out).2.1);(case side3=>exact HLW.out.below (by repeat (first|(with_reducible first|exact HB.out|apply below_alloc|apply pw_below_drewN|apply below_drew1)|exact HB.out)));rintro e w28 ⟨rfl,hb⟩;refine ⟨_,rfl,?_⟩;have n0_:=Aside0.mk (Kd.R_below (by (with_reducible repeat (first|apply Kd.R_alloc|apply Kd.R_drewN|apply Kd.R_drew));exact HO_4.out) hb);have n1_:=Aside0.mk (Kd.V_below (by (with_reducible repeat (first|apply Kd.V_alloc|apply Kd.V_drewN|apply Kd.V_drew));exact HO_5.out) hb);have n2_:=Aside0.mk (Kd.R_below (by (with_reducible repeat (first|apply Kd.R_alloc|apply Kd.R_drewN|apply Kd.R_drew));exact HO230.out) hb);have n3_:=Aside0.mk (Kd.V_below (by (with_reducible repeat (first|apply Kd.V_alloc|apply Kd.V_drewN|apply Kd.V_drew));exact HO233.out) hb);have n4_:=Aside0.mk (Kd.R_below (by (with_reducible repeat (first|apply Kd.R_alloc|apply Kd.R_drewN|apply Kd.R_drew));exact HO236.out) hb);have n5_:=Aside0.mk (Kd.V_below (by (with_reducible repeat (first|apply Kd.V_alloc|apply Kd.V_drewN|apply Kd.V_drew));exact HO239.out) hb);have n6_:=Aside0.mk (Kd.V_below (by (with_reducible repeat (first|apply Kd.V_alloc|apply Kd.V_drewN|apply Kd.V_drew));exact HO242.out) hb);have n7_:=Aside0.mk (below_step (by repeat (first|(with_reducible first|exact HB.out|apply below_alloc|apply pw_below_drewN|apply below_drew1)|exact HB.out)) hb);clear HO_4;clear HO_5;clear HO230;clear HO233;clear HO236;clear HO239;clear HO242;clear HB;have HO_4:=n0_;have HO_5:=n1_;have HO230:=n2_;have HO233:=n3_;have HO236:=n4_;have HO239:=n5_;have HO242:=n6_;have HB:=n7_;clear n0_ n1_ n2_ n3_ n4_ n5_ n6_ n7_;(try clear hb);(try clear hb2);(try clear hk);(try clear hi)))
       go_ret2
       exact ⟨by first|rfl|(simp [errW_none,errW_some]<;>rfl)|(simp [*,errW_none,errW_some]<;>rfl),by repeat (first|(with_reducible first|exact HB.out|apply below_alloc|apply pw_below_drewN|apply below_drew1)|exact HB.out)⟩
      ·rw [if_neg c19] at H
       have c19b0:decide (0≤t243) = false:=decide_eq_false c19
       clear c19
       have H':=Aside0.mk H
       clear H
       obtain ⟨Ao29,co29,eo29⟩:=Kd.V_slice HO_5.out
       subst eo29
       go_wp2_with (first|((with_reducible refine gate_callee (f:=45) rfl ?_);refine goesL_ (some 28) rfl rfl Tryd.func45 (by kernel_rfl) rfl #[.slice Ao12 t221.length co12,.slice Ao29 x5_1.length co29] rfl (by (try simp only [List.map_toArray,List.map_cons,List.map_nil]);first|done|rfl|(simp only [List.length_drop,List.length_take];rfl)) ?_;(with_reducible refine (natural_num_divide.calls (fun k_=>some k_ = (.slice Ao12 t221.length co12:Value).ownBlock) _ _ t221 _ _ x5_1 t228 t231 _ ?side1 ?side2 ?side3 A15.out).mono ?_);(case side1=>exact Kd.R_V (Kd.R_tight rfl (HO_4.out)));(case side2=>repeat (first|exact (Kd.V_reads' HO_5.out).2.2|(with_reducible refine Kd.C_alloc ?_ _)|(with_reducible refine Kd.C_drewN ?_ _)|(with_reducible refine Kd.C_drew ?_)));(case side3=>exact (Kd.V_reads' HO_5.out).2.1);rintro e w30 ⟨v229,v232,rfl,ho0,ho1,hb⟩;refine ⟨_,rfl,?_⟩;have n0_:=Aside0.mk (Kd.R_elder' (by (with_reducible repeat (first|apply Kd.R_alloc|apply Kd.R_drewN|apply Kd.R_drew));exact HO_4.out) (Kd.R_base ho0) hb);have n1_:=Aside0.mk (Kd.V_elder' (by (with_reducible repeat (first|apply Kd.V_alloc|apply Kd.V_drewN|apply Kd.V_drew));exact HO_5.out) (Kd.R_base ho0) hb);have n2_:=Aside0.mk (Kd.R_lower (Kd.R_new' (Kd.R_mono (ok':=fun k_=>True) ho0 (fun _ hk_=>trivial)) (Kd.R_lt (by (with_reducible repeat (first|apply Kd.R_alloc|apply Kd.R_drewN|apply Kd.R_drew));exact HO_4.out))) (below_size (by repeat (first|(with_reducible first|exact HB.out|apply below_alloc|apply pw_below_drewN|apply below_drew1)|exact HB.out))));have n3_:=Aside0.mk (Kd.V_lower (Kd.V_mono (ok':=fun k_=>some k_≠(v229:Value).ownBlock) ho1 (fun k_ hk_=>hk_.2)) (below_size (by repeat (first|(with_reducible first|exact HB.out|apply below_alloc|apply pw_below_drewN|apply below_drew1)|exact HB.out))));have n4_:=Aside0.mk (below_step (by repeat (first|(with_reducible first|exact HB.out|apply below_alloc|apply pw_below_drewN|apply below_drew1)|exact HB.out)) hb);clear HO_4;clear HO_5;clear HB;have HO_4:=n0_;have HO_5:=n1_;have HO230:=n2_;have HO233:=n3_;have HB:=n4_;clear n0_ n1_ n2_ n3_ n4_;(try clear hb);(try clear hb2);(try clear hk);(try clear hi);(try clear ho0);(try clear ho1);obtain ⟨Ao31,co31,eo31⟩:=Kd.R_slice HO230.out;subst eo31)|((with_reducible refine gate_callee (f:=38) rfl ?_);refine goesL_ (some 34) rfl rfl Tryd.func38 (by kernel_rfl) rfl #[.slice Ao29 x5_1.length co29,.slice Ao31 t228.length co31] rfl (by (try simp only [List.map_toArray,List.map_cons,List.map_nil]);first|done|rfl|(simp only [List.length_drop,List.length_take];rfl)) ?_;(with_reducible refine (natural_num_plus.calls _ _ x5_1 _ _ t228 t234 _ ?side1 ?side2 ?side3 ?side4 A16.out).mono ?_);(case side1=>repeat (first|exact (Kd.V_reads' HO_5.out).2.2|(with_reducible refine Kd.C_alloc ?_ _)|(with_reducible refine Kd.C_drewN ?_ _)|(with_reducible refine Kd.C_drew ?_)));(case side2=>exact (Kd.V_reads' HO_5.out).2.1);(case side3=>repeat (first|exact (Kd.R_reads' HO230.out).2.2|(with_reducible refine Kd.C_alloc ?_ _)|(with_reducible refine Kd.C_drewN ?_ _)|(with_reducible refine Kd.C_drew ?_)));(case side4=>exact (Kd.R_reads' HO230.out).2.1);rintro e w32 ⟨v235,rfl,ho0,hb⟩;refine ⟨_,rfl,?_⟩;have n0_:=Aside0.mk (Kd.R_elder' (by (with_reducible repeat (first|apply Kd.R_alloc|apply Kd.R_drewN|apply Kd.R_drew));exact HO_4.out) (Kd.R_base ho0) hb);have n1_:=Aside0.mk (Kd.V_elder' (by (with_reducible repeat (first|apply Kd.V_alloc|apply Kd.V_drewN|apply Kd.V_drew));exact HO_5.out) (Kd.R_base ho0) hb);have n2_:=Aside0.mk (Kd.R_elder' (by (with_reducible repeat (first|apply Kd.R_alloc|apply Kd.R_drewN|apply Kd.R_drew));exact HO230.out) (Kd.R_base ho0) hb);have n3_:=Aside0.mk (Kd.V_elder' (by (with_reducible repeat (first|apply Kd.V_alloc|apply Kd.V_drewN|apply Kd.V_drew));exact HO233.out) (Kd.R_base ho0) hb);have n4_:=Aside0.mk (Kd.R_lower (Kd.R_new' (Kd.R_new' ho0 (Kd.R_lt (by (with_reducible repeat (first|apply Kd.R_alloc|apply Kd.R_drewN|apply Kd.R_drew));exact HO_4.out))) (Kd.R_lt (by (with_reducible repeat (first|apply Kd.R_alloc|apply Kd.R_drewN|apply Kd.R_drew));exact HO230.out))) (below_size (by repeat (first|(with_reducible first|exact HB.out|apply below_alloc|apply pw_below_drewN|apply below_drew1)|exact HB.out))));have n5_:=Aside0.mk (below_step (by repeat (first|(with_reducible first|exact HB.out|apply below_alloc|apply pw_below_drewN|apply below_drew1)|exact HB.out)) hb);clear HO_4;clear HO_5;clear HO230;clear HO233;clear HB;have HO_4:=n0_;have HO_5:=n1_;have HO230:=n2_;have HO233:=n3_;have HO236:=n4_;have HB:=n5_;clear n0_ n1_ n2_ n3_ n4_ n5_;(try clear hb);(try clear hb2);(try clear hk);(try clear hi);(try clear ho0);obtain ⟨Ao33,co33,eo33⟩:=Kd.R_slice HO236.out;subst eo33)|((with_reducible refine gate_callee (f:=52) rfl ?_);refine goesL_ (some 35) rfl rfl Tryd.func52 (by kernel_rfl) rfl #[.slice Ao33 t234.length co33,.int .u64 2] rfl (by (try simp only [List.map_toArray,List.map_cons,List.map_nil]);first|done|rfl|(simp only [List.length_drop,List.length_take];rfl)) ?_;(with_reducible refine (natural_num_by.calls k1 _ _ t234 2 t237 t240 _ ?side1 ?side2 A17.out).mono ?_);(case side1=>repeat (first|exact (Kd.R_reads' HO236.out).2.2|(with_reducible refine Kd.C_alloc ?_ _)|(with_reducible refine Kd.C_drewN ?_ _)|(with_reducible refine Kd.C_drew ?_)));(case side2=>exact (Kd.R_reads' HO236.out).2.1);rintro e w34 ⟨v238,v241,rfl,ho0,ho1,hb⟩;refine ⟨_,rfl,?_⟩;have n0_:=Aside0.mk (Kd.R_below (by (with_reducible repeat (first|apply Kd.R_alloc|apply Kd.R_drewN|apply Kd.R_drew));exact HO_4.out) hb);have n1_:=Aside0.mk (Kd.V_below (by (with_reducible repeat (first|apply Kd.V_alloc|apply Kd.V_drewN|apply Kd.V_drew));exact HO_5.out) hb);have n2_:=Aside0.mk (Kd.R_below (by (with_reducible repeat (first|apply Kd.R_alloc|apply Kd.R_drewN|apply Kd.R_drew));exact HO230.out) hb);have n3_:=Aside0.mk (Kd.V_below (by (with_reducible repeat (first|apply Kd.V_alloc|apply Kd.V_drewN|apply Kd.V_drew));exact HO233.out) hb);have n4_:=Aside0.mk (Kd.R_below (by (with_reducible repeat (first|apply Kd.R_alloc|apply Kd.R_drewN|apply Kd.R_drew));exact HO236.out) hb);have n5_:=Aside0.mk (Kd.V_lower (Kd.V_mono (ok':=fun k_=>some k_≠(.slice Ao12 t221.length co12:Value).ownBlock∧some k_≠(.slice Ao31 t228.length co31:Value).ownBlock∧some k_≠(.slice Ao33 t234.length co33:Value).ownBlock) ho0 (fun k_ hk_=>⟨(Kd.fresh' (Kd.R_lt (by (with_reducible repeat (first|apply Kd.R_alloc|apply Kd.R_drewN|apply Kd.R_drew));exact HO_4.out)) k_ hk_),(Kd.fresh' (Kd.R_lt (by (with_reducible repeat (first|apply Kd.R_alloc|apply Kd.R_drewN|apply Kd.R_drew));exact HO230.out)) k_ hk_),(Kd.fresh' (Kd.R_lt (by (with_reducible repeat (first|apply Kd.R_alloc|apply Kd.R_drewN|apply Kd.R_drew));exact HO236.out)) k_ hk_)⟩)) (below_size (by repeat (first|(with_reducible first|exact HB.out|apply below_alloc|apply pw_below_drewN|apply below_drew1)|exact HB.out))));have n6_:=Aside0.mk (Kd.V_lower (Kd.V_mono (ok':=fun k_=>some k_≠(.slice Ao12 t221.length co12:Value).ownBlock∧some k_≠(.slice Ao31 t228.length co31:Value).ownBlock∧some k_≠(.slice Ao33 t234.length co33:Value).ownBlock) ho1 (fun k_ hk_=>⟨(Kd.fresh' (Kd.R_lt (by (with_reducible repeat (first|apply Kd.R_alloc|apply Kd.R_drewN|apply Kd.R_drew));exact HO_4.out)) k_ hk_),(Kd.fresh' (Kd.R_lt (by (with_reducible repeat (first|apply Kd.R_alloc|apply Kd.R_drewN|apply Kd.R_drew));exact HO230.out)) k_ hk_),(Kd.fresh' (Kd.R_lt (by (with_reducible repeat (first|apply Kd.R_alloc|apply Kd.R_drewN|apply Kd.R_drew));exact HO236.out)) k_ hk_)⟩)) (below_size (by repeat (first|(with_reducible first|exact HB.out|apply below_alloc|apply pw_below_drewN|apply below_drew1)|exact HB.out))));have n7_:=Aside0.mk (below_step (by repeat (first|(with_reducible first|exact HB.out|apply below_alloc|apply pw_below_drewN|apply below_drew1)|exact HB.out)) hb);clear HO_4;clear HO_5;clear HO230;clear HO233;clear HO236;clear HB;have HO_4:=n0_;have HO_5:=n1_;have HO230:=n2_;have HO233:=n3_;have HO236:=n4_;have HO239:=n5_;have HO242:=n6_;have HB:=n7_;clear n0_ n1_ n2_ n3_ n4_ n5_ n6_ n7_;(try clear hb);(try clear hb2);(try clear hk);(try clear hi);(try clear ho0);(try clear ho1);obtain ⟨Ao35,co35,eo35⟩:=Kd.V_slice HO239.out;subst eo35)|((with_reducible refine gate_callee (f:=34) rfl ?_);refine goesL_ (some 40) rfl rfl Tryd.func34 (by kernel_rfl) rfl #[.slice Ao35 t237.length co35,.slice Ao29 x5_1.length co29] rfl (by (try simp only [List.map_toArray,List.map_cons,List.map_nil]);first|done|rfl|(simp only [List.length_drop,List.length_take];rfl)) ?_;(with_reducible refine (natural_num_compare.calls k1 _ _ t237 _ _ x5_1 t243 _ ?side1 ?side2 ?side3 ?side4 A18.out).mono ?_);(case side1=>repeat (first|exact (Kd.V_reads' HO239.out).2.2|(with_reducible refine Kd.C_alloc ?_ _)|(with_reducible refine Kd.C_drewN ?_ _)|(with_reducible refine Kd.C_drew ?_)));(case side2=>exact (Kd.V_reads' HO239.out).2.1);(case side3=>repeat (first|exact (Kd.V_reads' HO_5.out).2.2|(with_reducible refine Kd.C_alloc ?_ _)|(with_reducible refine Kd.C_drewN ?_ _)|(with_reducible refine Kd.C_drew ?_)));(case side4=>exact (Kd.V_reads' HO_5.out).2.1);rintro e w' ⟨rfl,⟨nd,rfl⟩⟩;refine ⟨_,rfl,?_⟩))
       go_roundg k1
       case measure=>have:=HK1.out;omega
       case rel=>exact ⟨(t237),H',⟨by have:=HK1.out;omega⟩,⟨by (with_reducible repeat (first|apply Kd.R_alloc|apply Kd.R_drewN|apply Kd.R_drew));exact Kd.R_mono HO_4.out (fun _ hk=>trivial)⟩,⟨by (with_reducible repeat (first|apply Kd.V_alloc|apply Kd.V_drewN|apply Kd.V_drew));exact Kd.V_mono HO239.out (fun _ hk=>hk.1)⟩,⟨by repeat (first|(with_reducible first|exact HB.out|apply below_alloc|apply pw_below_drewN|apply below_drew1)|exact HB.out)⟩⟩
   ·rw [if_neg c9] at H
    exact absurd H (by simp)
 ·replace c3:=Bool.eq_false_iff.mpr c3
  subst c3
  have H1:(some ((⟨#[]⟩:ByteArray),1)) = some (r1,r2):=by rw [if_neg (show ¬ (false = true) by decide)] at H;exact H
  clear H
  have H:=H1
  clear H1
  simp only [Option.some.injEq,Prod.mk.injEq] at H
  obtain ⟨rfl,rfl⟩:=H
  go_enter Tryd.func27,Tryd.ntmps27
  go_wp2_with (first|((with_reducible refine gate_callee (f:=15) rfl ?_);refine goesL_ (some 11) rfl rfl Tryd.func15 (by kernel_rfl) rfl #[.string a0] rfl (by (try simp only [List.map_toArray,List.map_cons,List.map_nil]);first|done|rfl|(simp only [List.length_drop,List.length_take];rfl)) ?_;(with_reducible refine (natural_Valid.calls k a0 false _ A2.out).mono ?_);rintro e w' ⟨rfl,⟨nd,rfl⟩⟩;refine ⟨_,rfl,?_⟩))
  go_ret2
  exact ⟨by first|rfl|(simp [errW_none,errW_some]<;>rfl)|(simp [*,errW_none,errW_some]<;>rfl),by repeat (first|(with_reducible first|exact HB.out|apply below_alloc|apply pw_below_drewN|apply below_drew1)|exact HB.out)⟩
end Go.Proofs.YtaopmkcghancmaaDoor.Pr
namespace Go.Proofs.YtaopmkcghancmaaDoor.Pr
open Go.RowKit Go.Proofs.YtaopmkcghancmaaDoorW.PrintWords Go.Proofs.YtaopmkcghancmaaDoorW.PrintLast Go.Proofs.YtaopmkcghancmaaDoorW.PrintMore
attribute [local go_sem] max2_int min2_int max_two min_two max_three min_three max_four min_four
set_option linter.unusedVariables false
set_option linter.unusedSimpArgs false
def natural_Pow.l0:Nat→Int→List Int→List Int→Option (ByteArray × Int)
 | 0,_,_,_=>none
 | k + 1,x1,x6,x7=>if x1 > 0 then (if (Int.tmod x1 2) = 1 then ((natural_num_times.f k x6 x7).bind fun t253=>((natural_num_times.f k x7 x7).bind fun t256=>(natural_Pow.l0 k (wrap64 (Int.tdiv x1 2)) t253 t256))) else ((natural_num_times.f k x7 x7).bind fun t259=>(natural_Pow.l0 k (wrap64 (Int.tdiv x1 2)) x6 t259))) else ((natural_num_text.f x6).bind fun t252=>(some (t252,0)))
def natural_Pow.f (k:Nat) (a0:ByteArray) (a1:Int):Option (ByteArray × Int):=(natural_Valid.f k a0).bind fun t245=>(if t245 = true then (if a1 < 0 then (some ((⟨#[]⟩:ByteArray),2)) else (if a1 > 64 then (some ((⟨#[]⟩:ByteArray),2)) else ((natural_read.f a0).bind fun t249=>(natural_Pow.l0 k a1 (([1]:List Int)) t249)))) else (some ((⟨#[]⟩:ByteArray),1)))
set_option maxHeartbeats 8000000 in
set_option maxRecDepth 100000 in
theorem natural_Pow.calls (k:Nat) (a0:ByteArray) (a1:Int) (r1:ByteArray) (r2:Int) (w:World) (hL:LaidW w) (h:natural_Pow.f k a0 a1 = some (r1,r2)) :
  Calls Tryd.prog 29 #[.string a0,.int .i64 a1] w fun e w'=>e = .returned (.tuple #[.string r1,.int .i64 r2])∧Below w.heap.size w w':=by
 have HB:=Aside0.mk (Below.refl w.heap.size w)
 have HLW:=Aside0.mk hL
 clear hL
 have H:((natural_Valid.f k a0).bind fun t245=>(if t245 = true then (if a1 < 0 then (some ((⟨#[]⟩:ByteArray),2)) else (if a1 > 64 then (some ((⟨#[]⟩:ByteArray),2)) else ((natural_read.f a0).bind fun t249=>(natural_Pow.l0 k a1 (([1]:List Int)) t249)))) else (some ((⟨#[]⟩:ByteArray),1)))) = some (r1,r2):=h
 clear h
 replace H:=Option.bind_eq_some_iff.mp H
 obtain ⟨t245,A30,H⟩:=H
 replace H:(if t245 = true then (if a1 < 0 then (some ((⟨#[]⟩:ByteArray),2)) else (if a1 > 64 then (some ((⟨#[]⟩:ByteArray),2)) else ((natural_read.f a0).bind fun t249=>(natural_Pow.l0 k a1 (([1]:List Int)) t249)))) else (some ((⟨#[]⟩:ByteArray),1))) = some (r1,r2):=H
 have A3:=Aside0.mk A30
 clear A30
 by_cases c4:t245 = true
 ·subst c4
  have H1:(if a1 < 0 then (some ((⟨#[]⟩:ByteArray),2)) else (if a1 > 64 then (some ((⟨#[]⟩:ByteArray),2)) else ((natural_read.f a0).bind fun t249=>(natural_Pow.l0 k a1 (([1]:List Int)) t249)))) = some (r1,r2):=by rw [if_pos rfl] at H;exact H
  clear H
  have H:=H1
  clear H1
  by_cases c5:a1 < 0
  ·rw [if_pos c5] at H
   have c5b0:decide (a1 < 0) = true:=decide_eq_true c5
   clear c5
   simp only [Option.some.injEq,Prod.mk.injEq] at H
   obtain ⟨rfl,rfl⟩:=H
   go_enter Tryd.func29,Tryd.ntmps29
   go_wp2_with (first|((with_reducible refine gate_callee (f:=15) rfl ?_);refine goesL_ (some 10) rfl rfl Tryd.func15 (by kernel_rfl) rfl #[.string a0] rfl (by (try simp only [List.map_toArray,List.map_cons,List.map_nil]);first|done|rfl|(simp only [List.length_drop,List.length_take];rfl)) ?_;(with_reducible refine (natural_Valid.calls k a0 true _ A3.out).mono ?_);rintro e w' ⟨rfl,⟨nd,rfl⟩⟩;refine ⟨_,rfl,?_⟩))
   go_ret2
   exact ⟨by first|rfl|(simp [errW_none,errW_some]<;>rfl)|(simp [*,errW_none,errW_some]<;>rfl),by repeat (first|(with_reducible first|exact HB.out|apply below_alloc|apply pw_below_drewN|apply below_drew1)|exact HB.out)⟩
  ·rw [if_neg c5] at H
   have c5b0:decide (a1 < 0) = false:=decide_eq_false c5
   clear c5
   by_cases c6:a1 > 64
   ·rw [if_pos c6] at H
    have c6b0:decide (64 < a1) = true:=decide_eq_true c6
    clear c6
    simp only [Option.some.injEq,Prod.mk.injEq] at H
    obtain ⟨rfl,rfl⟩:=H
    go_enter Tryd.func29,Tryd.ntmps29
    go_wp2_with (first|((with_reducible refine gate_callee (f:=15) rfl ?_);refine goesL_ (some 10) rfl rfl Tryd.func15 (by kernel_rfl) rfl #[.string a0] rfl (by (try simp only [List.map_toArray,List.map_cons,List.map_nil]);first|done|rfl|(simp only [List.length_drop,List.length_take];rfl)) ?_;(with_reducible refine (natural_Valid.calls k a0 true _ A3.out).mono ?_);rintro e w' ⟨rfl,⟨nd,rfl⟩⟩;refine ⟨_,rfl,?_⟩))
    go_ret2
    exact ⟨by first|rfl|(simp [errW_none,errW_some]<;>rfl)|(simp [*,errW_none,errW_some]<;>rfl),by repeat (first|(with_reducible first|exact HB.out|apply below_alloc|apply pw_below_drewN|apply below_drew1)|exact HB.out)⟩
   ·rw [if_neg c6] at H
    have c6b0:decide (64 < a1) = false:=decide_eq_false c6
    clear c6
    obtain ⟨y246,hy246⟩:∃ y_:List Int,y_ = (([1]:List Int)):=⟨_,rfl⟩
    replace H:((natural_read.f a0).bind fun t249=>(natural_Pow.l0 k a1 y246 t249)) = some (r1,r2):=by first|(rw [hy246];with_reducible exact H)|(have H2_:=(Option.bind_some _ _).symm.trans H;rw [hy246];with_reducible exact H2_)|(have H2_:=(Option.bind_some _ _).symm.trans H;with_reducible exact H2_)|with_reducible exact H|(rw [hy246];exact H)|exact H
    have Ny246:=Aside0.mk hy246
    clear hy246
    replace H:=Option.bind_eq_some_iff.mp H
    obtain ⟨t249,A70,H⟩:=H
    replace H:(natural_Pow.l0 k a1 y246 t249) = some (r1,r2):=H
    have A7:=Aside0.mk A70
    clear A70
    have H':=Aside0.mk H
    clear H
    go_enter Tryd.func29,Tryd.ntmps29
    go_wp2_with (first|((with_reducible refine gate_callee (f:=15) rfl ?_);refine goesL_ (some 10) rfl rfl Tryd.func15 (by kernel_rfl) rfl #[.string a0] rfl (by (try simp only [List.map_toArray,List.map_cons,List.map_nil]);first|done|rfl|(simp only [List.length_drop,List.length_take];rfl)) ?_;(with_reducible refine (natural_Valid.calls k a0 true _ A3.out).mono ?_);rintro e w' ⟨rfl,⟨nd,rfl⟩⟩;refine ⟨_,rfl,?_⟩)|((with_reducible refine gate_dst (N:=19) rfl ?_);refine Kd.R_lit (Kd.int .u32) _ 64 ?hg (N:=19) ?hd (xs:=([1]:List Int)) (inner:=[.int .u32 1]) (ok:=fun _=>True) (okp:=fun _=>True) ?hr ?hp (fun _ hk=>hk) trivial (Below.refl _ _) (Nat.le_refl _) (by simp) ?_;(case hd=>rfl);(case hg=>rfl);(case hr=>first|(go_simp;done)|(go_simp;rfl));(case hp=>exact (Reps.one (show Kd.M (Kd.int .u32) _ _ _ 1 [.int .u32 1] from rfl) (Reps.none _ _)));intro v247 w8 ho9 hb hg_ hnew_;clear hg_ hnew_;(first|rw [← Ny246.out] at ho9|(simp only [Int.reduceToNat] at ho9;rw [← Ny246.out] at ho9));have n0_:=Aside0.mk (Kd.R_lower ho9 (below_size (by repeat (first|(with_reducible first|exact HB.out|apply below_alloc|apply pw_below_drewN|apply below_drew1)|exact HB.out))));have n1_:=Aside0.mk (below_step (by repeat (first|(with_reducible first|exact HB.out|apply below_alloc|apply pw_below_drewN|apply below_drew1)|exact HB.out)) hb);clear HB;have HO248:=n0_;have HB:=n1_;clear n0_ n1_;clear hb ho9)|((with_reducible refine gate_callee (f:=50) rfl ?_);refine goesL_ (some 21) rfl rfl Tryd.func50 (by kernel_rfl) rfl #[.string a0] rfl (by (try simp only [List.map_toArray,List.map_cons,List.map_nil]);first|done|rfl|(simp only [List.length_drop,List.length_take];rfl)) ?_;(with_reducible refine (natural_read.calls a0 t249 _ A7.out).mono ?_);rintro e w10 ⟨v250,rfl,ho0,hb⟩;refine ⟨_,rfl,?_⟩;have n0_:=Aside0.mk (Kd.R_elder' (by (with_reducible repeat (first|apply Kd.R_alloc|apply Kd.R_drewN|apply Kd.R_drew));exact HO248.out) (Kd.R_base ho0) hb);have n1_:=Aside0.mk (Kd.R_lower (Kd.R_new' ho0 (Kd.R_lt (by (with_reducible repeat (first|apply Kd.R_alloc|apply Kd.R_drewN|apply Kd.R_drew));exact HO248.out))) (below_size (by repeat (first|(with_reducible first|exact HB.out|apply below_alloc|apply pw_below_drewN|apply below_drew1)|exact HB.out))));have n2_:=Aside0.mk (below_step (by repeat (first|(with_reducible first|exact HB.out|apply below_alloc|apply pw_below_drewN|apply below_drew1)|exact HB.out)) hb);clear HO248;clear HB;have HO248:=n0_;have HO251:=n1_;have HB:=n2_;clear n0_ n1_ n2_;(try clear hb);(try clear hb2);(try clear hk);(try clear hi);(try clear ho0)))
    go_loopg [1,6,7] k (fun kq v1 v6 v7 w'=>∃ (x1_1:Int) (x6_1:List Int) (x7_1:List Int),v1 = .int .i64 x1_1∧Aside0 (natural_Pow.l0 kq x1_1 x6_1 x7_1 = some (r1,r2))∧Aside0 (kq≤k)∧Aside0 (Kd.V (Kd.int .u32) 64 w' w.heap.size (fun _=>True) v6 x6_1)∧Aside0 (Kd.V (Kd.int .u32) 64 w' w.heap.size (fun _=>True) v7 x7_1)∧Aside0 (Below w.heap.size w w'))
    case atStart=>exact ⟨(a1),(y246),(t249),(by first|rfl|(simp;done)|(simp [*];done)),H',⟨Nat.le_refl _⟩,⟨Kd.R_V (by (with_reducible repeat (first|apply Kd.R_alloc|apply Kd.R_drewN|apply Kd.R_drew));exact Kd.R_mono HO248.out (fun _ hk=>trivial))⟩,⟨Kd.R_V (by (with_reducible repeat (first|apply Kd.R_alloc|apply Kd.R_drewN|apply Kd.R_drew));exact Kd.R_mono HO251.out (fun _ hk=>trivial))⟩,⟨by repeat (first|(with_reducible first|exact HB.out|apply below_alloc|apply pw_below_drewN|apply below_drew1)|exact HB.out)⟩⟩
    case round =>
     clear H'
     try clear c1
     try clear c2
     try clear p2
     try clear c4
     try clear c5
     try clear c5b0
     try clear c6
     try clear c6b0
     obtain ⟨x1_1,x6_1,x7_1,rfl,HA,HK1,HO_6,HO_7,HB⟩:=hrel
     cases gk with
     | zero=>exact absurd HA.out (by simp [natural_Pow.l0])
     | succ k1 =>
      have H:=HA.out
      clear HA
      simp only [natural_Pow.l0] at H
      by_cases c11:x1_1 > 0
      ·rw [if_pos c11] at H
       have c11b0:decide (0 < x1_1) = true:=decide_eq_true c11
       clear c11
       by_cases c12:(Int.tmod x1_1 2) = 1
       ·rw [if_pos c12] at H
        have c12b0:((Int.tmod x1_1 2) == 1) = true:=beq_iff_eq.mpr c12
        have c12b1:((Int.tmod x1_1 2) != 1) = false:=bne_eq_false_iff_eq.mpr c12
        clear c12
        replace H:=Option.bind_eq_some_iff.mp H
        obtain ⟨t253,A130,H⟩:=H
        replace H:((natural_num_times.f k1 x7_1 x7_1).bind fun t256=>(natural_Pow.l0 k1 (wrap64 (Int.tdiv x1_1 2)) t253 t256)) = some (r1,r2):=H
        have A13:=Aside0.mk A130
        clear A130
        replace H:=Option.bind_eq_some_iff.mp H
        obtain ⟨t256,A140,H⟩:=H
        replace H:(natural_Pow.l0 k1 (wrap64 (Int.tdiv x1_1 2)) t253 t256) = some (r1,r2):=H
        have A14:=Aside0.mk A140
        clear A140
        have H':=Aside0.mk H
        clear H
        obtain ⟨Ao15,co15,eo15⟩:=Kd.V_slice HO_6.out
        subst eo15
        obtain ⟨Ao16,co16,eo16⟩:=Kd.V_slice HO_7.out
        subst eo16
        go_wp2_with (first|((with_reducible refine gate_callee (f:=43) rfl ?_);refine goesL_ (some 31) rfl rfl Tryd.func43 (by kernel_rfl) rfl #[.slice Ao15 x6_1.length co15,.slice Ao16 x7_1.length co16] rfl (by (try simp only [List.map_toArray,List.map_cons,List.map_nil]);first|done|rfl|(simp only [List.length_drop,List.length_take];rfl)) ?_;(with_reducible refine (natural_num_times.calls k1 _ _ x6_1 _ _ x7_1 t253 _ ?side1 ?side2 ?side3 ?side4 A13.out).mono ?_);(case side1=>repeat (first|exact (Kd.V_reads' HO_6.out).2.2|(with_reducible refine Kd.C_alloc ?_ _)|(with_reducible refine Kd.C_drewN ?_ _)|(with_reducible refine Kd.C_drew ?_)));(case side2=>exact (Kd.V_reads' HO_6.out).2.1);(case side3=>repeat (first|exact (Kd.V_reads' HO_7.out).2.2|(with_reducible refine Kd.C_alloc ?_ _)|(with_reducible refine Kd.C_drewN ?_ _)|(with_reducible refine Kd.C_drew ?_)));(case side4=>exact (Kd.V_reads' HO_7.out).2.1);rintro e w17 ⟨v254,rfl,ho0,hb⟩;refine ⟨_,rfl,?_⟩;have n0_:=Aside0.mk (Kd.V_below (by (with_reducible repeat (first|apply Kd.V_alloc|apply Kd.V_drewN|apply Kd.V_drew));exact HO_6.out) hb);have n1_:=Aside0.mk (Kd.V_below (by (with_reducible repeat (first|apply Kd.V_alloc|apply Kd.V_drewN|apply Kd.V_drew));exact HO_7.out) hb);have n2_:=Aside0.mk (Kd.V_lower (Kd.V_mono (ok':=fun k_=>True) ho0 (fun k_ hk_=>trivial)) (below_size (by repeat (first|(with_reducible first|exact HB.out|apply below_alloc|apply pw_below_drewN|apply below_drew1)|exact HB.out))));have n3_:=Aside0.mk (below_step (by repeat (first|(with_reducible first|exact HB.out|apply below_alloc|apply pw_below_drewN|apply below_drew1)|exact HB.out)) hb);clear HO_6;clear HO_7;clear HB;have HO_6:=n0_;have HO_7:=n1_;have HO255:=n2_;have HB:=n3_;clear n0_ n1_ n2_ n3_;(try clear hb);(try clear hb2);(try clear hk);(try clear hi);(try clear ho0))|((with_reducible refine gate_callee (f:=43) rfl ?_);refine goesL_ (some 34) rfl rfl Tryd.func43 (by kernel_rfl) rfl #[.slice Ao16 x7_1.length co16,.slice Ao16 x7_1.length co16] rfl (by (try simp only [List.map_toArray,List.map_cons,List.map_nil]);first|done|rfl|(simp only [List.length_drop,List.length_take];rfl)) ?_;(with_reducible refine (natural_num_times.calls k1 _ _ x7_1 _ _ x7_1 t256 _ ?side1 ?side2 ?side3 ?side4 A14.out).mono ?_);(case side1=>repeat (first|exact (Kd.V_reads' HO_7.out).2.2|(with_reducible refine Kd.C_alloc ?_ _)|(with_reducible refine Kd.C_drewN ?_ _)|(with_reducible refine Kd.C_drew ?_)));(case side2=>exact (Kd.V_reads' HO_7.out).2.1);(case side3=>repeat (first|exact (Kd.V_reads' HO_7.out).2.2|(with_reducible refine Kd.C_alloc ?_ _)|(with_reducible refine Kd.C_drewN ?_ _)|(with_reducible refine Kd.C_drew ?_)));(case side4=>exact (Kd.V_reads' HO_7.out).2.1);rintro e w18 ⟨v257,rfl,ho0,hb⟩;refine ⟨_,rfl,?_⟩;have n0_:=Aside0.mk (Kd.V_below (by (with_reducible repeat (first|apply Kd.V_alloc|apply Kd.V_drewN|apply Kd.V_drew));exact HO_6.out) hb);have n1_:=Aside0.mk (Kd.V_below (by (with_reducible repeat (first|apply Kd.V_alloc|apply Kd.V_drewN|apply Kd.V_drew));exact HO_7.out) hb);have n2_:=Aside0.mk (Kd.V_below (by (with_reducible repeat (first|apply Kd.V_alloc|apply Kd.V_drewN|apply Kd.V_drew));exact HO255.out) hb);have n3_:=Aside0.mk (Kd.V_lower (Kd.V_mono (ok':=fun k_=>True) ho0 (fun k_ hk_=>trivial)) (below_size (by repeat (first|(with_reducible first|exact HB.out|apply below_alloc|apply pw_below_drewN|apply below_drew1)|exact HB.out))));have n4_:=Aside0.mk (below_step (by repeat (first|(with_reducible first|exact HB.out|apply below_alloc|apply pw_below_drewN|apply below_drew1)|exact HB.out)) hb);clear HO_6;clear HO_7;clear HO255;clear HB;have HO_6:=n0_;have HO_7:=n1_;have HO255:=n2_;have HO258:=n3_;have HB:=n4_;clear n0_ n1_ n2_ n3_ n4_;(try clear hb);(try clear hb2);(try clear hk);(try clear hi);(try clear ho0)))
        go_roundg k1
        case measure=>have:=HK1.out;omega
        case rel=>exact ⟨(wrap64 (Int.tdiv x1_1 2)),(t253),(t256),(by first|rfl|(simp;done)|(simp [*];done)),H',⟨by have:=HK1.out;omega⟩,⟨by (with_reducible repeat (first|apply Kd.V_alloc|apply Kd.V_drewN|apply Kd.V_drew));exact HO255.out⟩,⟨by (with_reducible repeat (first|apply Kd.V_alloc|apply Kd.V_drewN|apply Kd.V_drew));exact HO258.out⟩,⟨by repeat (first|(with_reducible first|exact HB.out|apply below_alloc|apply pw_below_drewN|apply below_drew1)|exact HB.out)⟩⟩
       ·rw [if_neg c12] at H
        have c12b0:((Int.tmod x1_1 2) == 1) = false:=beq_eq_false_iff_ne.mpr c12
        have c12b1:((Int.tmod x1_1 2) != 1) = true:=bne_iff_ne.mpr c12
        replace H:=Option.bind_eq_some_iff.mp H
        obtain ⟨t259,A190,H⟩:=H
        replace H:(natural_Pow.l0 k1 (wrap64 (Int.tdiv x1_1 2)) x6_1 t259) = some (r1,r2):=H
        have A19:=Aside0.mk A190
        clear A190
        have H':=Aside0.mk H
        clear H
        obtain ⟨Ao20,co20,eo20⟩:=Kd.V_slice HO_7.out
        subst eo20
        go_wp2_with (first|((with_reducible refine gate_callee (f:=43) rfl ?_);refine goesL_ (some 34) rfl rfl Tryd.func43 (by kernel_rfl) rfl #[.slice Ao20 x7_1.length co20,.slice Ao20 x7_1.length co20] rfl (by (try simp only [List.map_toArray,List.map_cons,List.map_nil]);first|done|rfl|(simp only [List.length_drop,List.length_take];rfl)) ?_;(with_reducible refine (natural_num_times.calls k1 _ _ x7_1 _ _ x7_1 t259 _ ?side1 ?side2 ?side3 ?side4 A19.out).mono ?_);(case side1=>repeat (first|exact (Kd.V_reads' HO_7.out).2.2|(with_reducible refine Kd.C_alloc ?_ _)|(with_reducible refine Kd.C_drewN ?_ _)|(with_reducible refine Kd.C_drew ?_)));(case side2=>exact (Kd.V_reads' HO_7.out).2.1);(case side3=>repeat (first|exact (Kd.V_reads' HO_7.out).2.2|(with_reducible refine Kd.C_alloc ?_ _)|(with_reducible refine Kd.C_drewN ?_ _)|(with_reducible refine Kd.C_drew ?_)));(case side4=>exact (Kd.V_reads' HO_7.out).2.1);rintro e w21 ⟨v260,rfl,ho0,hb⟩;refine ⟨_,rfl,?_⟩;have n0_:=Aside0.mk (Kd.V_below (by (with_reducible repeat (first|apply Kd.V_alloc|apply Kd.V_drewN|apply Kd.V_drew));exact HO_6.out) hb);have n1_:=Aside0.mk (Kd.V_below (by (with_reducible repeat (first|apply Kd.V_alloc|apply Kd.V_drewN|apply Kd.V_drew));exact HO_7.out) hb);have n2_:=Aside0.mk (Kd.V_lower (Kd.V_mono (ok':=fun k_=>True) ho0 (fun k_ hk_=>trivial)) (below_size (by repeat (first|(with_reducible first|exact HB.out|apply below_alloc|apply pw_below_drewN|apply below_drew1)|exact HB.out))));have n3_:=Aside0.mk (below_step (by repeat (first|(with_reducible first|exact HB.out|apply below_alloc|apply pw_below_drewN|apply below_drew1)|exact HB.out)) hb);clear HO_6;clear HO_7;clear HB;have HO_6:=n0_;have HO_7:=n1_;have HO261:=n2_;have HB:=n3_;clear n0_ n1_ n2_ n3_;(try clear hb);(try clear hb2);(try clear hk);(try clear hi);(try clear ho0)))
        go_roundg k1
        case measure=>have:=HK1.out;omega
        case rel=>exact ⟨(wrap64 (Int.tdiv x1_1 2)),(x6_1),(t259),(by first|rfl|(simp;done)|(simp [*];done)),H',⟨by have:=HK1.out;omega⟩,⟨by (with_reducible repeat (first|apply Kd.V_alloc|apply Kd.V_drewN|apply Kd.V_drew));exact HO_6.out⟩,⟨by (with_reducible repeat (first|apply Kd.V_alloc|apply Kd.V_drewN|apply Kd.V_drew));exact HO261.out⟩,⟨by repeat (first|(with_reducible first|exact HB.out|apply below_alloc|apply pw_below_drewN|apply below_drew1)|exact HB.out)⟩⟩
      ·rw [if_neg c11] at H
       have c11b0:decide (0 < x1_1) = false:=decide_eq_false c11
       clear c11
       replace H:=Option.bind_eq_some_iff.mp H
       obtain ⟨t252,A220,H⟩:=H
       replace H:(some (t252,0)) = some (r1,r2):=H
       have A22:=Aside0.mk A220
       clear A220
       simp only [Option.some.injEq,Prod.mk.injEq] at H
       obtain ⟨rfl,rfl⟩:=H
       obtain ⟨Ao23,co23,eo23⟩:=Kd.V_slice HO_6.out
       subst eo23
       go_wp2_with (first|((with_reducible refine gate_callee (f:=46) rfl ?_);refine goesL_ (some 36) rfl rfl Tryd.func46 (by kernel_rfl) rfl #[.slice Ao23 x6_1.length co23] rfl (by (try simp only [List.map_toArray,List.map_cons,List.map_nil]);first|done|rfl|(simp only [List.length_drop,List.length_take];rfl)) ?_;(with_reducible refine (natural_num_text.calls _ _ x6_1 t252 _ ?side1 ?side2 ?side3 A22.out).mono ?_);(case side1=>repeat (first|exact (Kd.V_reads' HO_6.out).2.2|(with_reducible refine Kd.C_alloc ?_ _)|(with_reducible refine Kd.C_drewN ?_ _)|(with_reducible refine Kd.C_drew ?_)));(case side2=>exact (Kd.V_reads' HO_6.out).2.1);(case side3=>exact HLW.out.below (by repeat (first|(with_reducible first|exact HB.out|apply below_alloc|apply pw_below_drewN|apply below_drew1)|exact HB.out)));rintro e w24 ⟨rfl,hb⟩;refine ⟨_,rfl,?_⟩;have n0_:=Aside0.mk (Kd.V_below (by (with_reducible repeat (first|apply Kd.V_alloc|apply Kd.V_drewN|apply Kd.V_drew));exact HO_6.out) hb);have n1_:=Aside0.mk (Kd.V_below (by (with_reducible repeat (first|apply Kd.V_alloc|apply Kd.V_drewN|apply Kd.V_drew));exact HO_7.out) hb);have n2_:=Aside0.mk (below_step (by repeat (first|(with_reducible first|exact HB.out|apply below_alloc|apply pw_below_drewN|apply below_drew1)|exact HB.out)) hb);clear HO_6;clear HO_7;clear HB;have HO_6:=n0_;have HO_7:=n1_;have HB:=n2_;clear n0_ n1_ n2_;(try clear hb);(try clear hb2);(try clear hk);(try clear hi)))
       go_ret2
       exact ⟨by first|rfl|(simp [errW_none,errW_some]<;>rfl)|(simp [*,errW_none,errW_some]<;>rfl),by repeat (first|(with_reducible first|exact HB.out|apply below_alloc|apply pw_below_drewN|apply below_drew1)|exact HB.out)⟩
 ·replace c4:=Bool.eq_false_iff.mpr c4
  subst c4
  have H1:(some ((⟨#[]⟩:ByteArray),1)) = some (r1,r2):=by rw [if_neg (show ¬ (false = true) by decide)] at H;exact H
  clear H
  have H:=H1
  clear H1
  simp only [Option.some.injEq,Prod.mk.injEq] at H
  obtain ⟨rfl,rfl⟩:=H
  go_enter Tryd.func29,Tryd.ntmps29
  go_wp2_with (first|((with_reducible refine gate_callee (f:=15) rfl ?_);refine goesL_ (some 10) rfl rfl Tryd.func15 (by kernel_rfl) rfl #[.string a0] rfl (by (try simp only [List.map_toArray,List.map_cons,List.map_nil]);first|done|rfl|(simp only [List.length_drop,List.length_take];rfl)) ?_;(with_reducible refine (natural_Valid.calls k a0 false _ A3.out).mono ?_);rintro e w' ⟨rfl,⟨nd,rfl⟩⟩;refine ⟨_,rfl,?_⟩))
  go_ret2
  exact ⟨by first|rfl|(simp [errW_none,errW_some]<;>rfl)|(simp [*,errW_none,errW_some]<;>rfl),by repeat (first|(with_reducible first|exact HB.out|apply below_alloc|apply pw_below_drewN|apply below_drew1)|exact HB.out)⟩
end Go.Proofs.YtaopmkcghancmaaDoor.Pr
set_option linter.unusedVariables false
set_option linter.unusedSimpArgs false
namespace Go.Proofs.YtaopmkcghancmaaDoor.Pr
open Go.RowKit Go.Lib Go.Proofs.YtaopmkcghancmaaDoorW.PrintWords Go.Proofs.YtaopmkcghancmaaDoorW.PrintLast Go.Proofs.YtaopmkcghancmaaDoorW.PrintMore Go.Proofs.YtaopmkcghancmaaDoor.NatTh
def cmpSV (a b:ByteArray):Int × Int:=if (nv a && nv b) = true then (ord (nat a) (nat b),0) else (0,1)
def divV (a b:ByteArray):ByteArray × ByteArray × Int:=if (nv a && nv b) = true then (if nat b = 0 then (⟨#[]⟩,⟨#[]⟩,16) else (num (nat a / nat b),num (nat a % nat b),0)) else (⟨#[]⟩,⟨#[]⟩,1)
theorem Compare_ev (a b:ByteArray) (ha:Sh a) (hb:Sh b):Ev (fun k=>natural_Compare.f k a b) (cmpSV a b):=by
 refine Ev.congr (fun k=>rfl) (Ev.bind (both_ev a b ha hb) ?_)
 unfold cmpSV bothV
 by_cases h:(nv a && nv b) = true
 ·obtain ⟨h1,h2⟩:=Bool.and_eq_true_iff.1 h
  rw [if_pos h,if_pos h]
  have la:=nat_can a h1 ha
  have lb:=nat_can b h2 hb
  have hc:=(compare_ev (nat a) (nat b) (by unfold Ok;omega) (by unfold Ok;omega)).1
  exact Ev.congr (f:=fun k=>(natural_num_compare.f k (numOf (nat a)) (numOf (nat b))).bind fun t=>some (t,0)) (fun k=>if_pos rfl) (Ev.bind hc (Ev.now _))
 ·rw [if_neg h,if_neg h]
  exact ⟨0,fun k _=>rfl⟩
theorem DivMod_ev (a b:ByteArray) (ha:Sh a) (hb:Sh b):Ev (fun k=>natural_DivMod.f k a b) (divV a b):=by
 refine Ev.congr (fun k=>rfl) (Ev.bind (both_ev a b ha hb) ?_)
 unfold divV bothV
 by_cases h:(nv a && nv b) = true
 ·obtain ⟨h1,h2⟩:=Bool.and_eq_true_iff.1 h
  rw [if_pos h,if_pos h]
  have la:=nat_can a h1 ha
  have lb:=nat_can b h2 hb
  refine ⟨0,fun k _=>?_⟩
  dsimp only
  rw [if_pos rfl]
  by_cases h0:nat b = 0
  ·rw [if_pos h0,h0,numOf_zero,if_pos (by simp)]
  ·have hp:=len_pos (Nat.pos_of_ne_zero h0)
   have lq:=len_mono (Nat.div_le_self (nat a) (nat b))
   have lr:=mod_len (nat a) (nat b)
   rw [if_neg h0,if_neg (by omega),(divide_eq (nat a) (nat b) (by omega) (by omega) h0).1,Option.bind_some,text_eq _ (by unfold Ok;omega),Option.bind_some,text_eq _ (by unfold Ok;omega)]
   rfl
 ·rw [if_neg h,if_neg h]
  exact ⟨0,fun k _=>rfl⟩
noncomputable def rt (n:Nat):Nat:=(root_ex n).choose
theorem rt_spec (n:Nat):IsRoot (rt n) n:=(root_ex n).choose_spec
theorem ord_ge (a b:Nat):ord a b ≥ 0 ↔ b≤a:=by
 have:=ord_neg a b
 omega
theorem root_loop (n:Nat) (hn:0 < n) (ln:(numOf n).length≤1000000) (x:Nat):0 < x→rt n≤x→(numOf x).length≤1000000→Ev (fun k=>natural_Root.l0 k (numOf n) (numOf x)) (num (rt n),0):=by
 induction x using Nat.strongRecOn with
 | ind x ih =>
  intro hx hs lx
  have hR:=rt_spec n
  have hs1:0 < rt n:=by
   have:=hR.2
   by_cases h:0 < rt n
   ·exact h
   ·have h0:rt n = 0:=by omega
    rw [h0] at this
    omega
  have lq:=len_mono (Nat.div_le_self n x)
  have lt:=len_add x (n / x) 1000000 lx (by omega)
  have lh:=len_mono (Nat.div_le_self (x + n / x) 2)
  have hb:=(by_ev (x + n / x) 2 (by omega) (by omega) (by unfold Ok;omega)).1
  have hc:=(compare_ev ((x + n / x) / 2) x (by unfold Ok;omega) (by unfold Ok;omega)).1
  refine Ev.step (f:=fun k=>(natural_num_by.f k (numOf (x + n / x)) 2).bind fun bt237=>((natural_num_compare.f k bt237.1 (numOf x)).bind fun t243=>(if t243 ≥ 0 then ((natural_num_text.f (numOf x)).bind fun t244=>(some (t244,0))) else (natural_Root.l0 k (numOf n) bt237.1)))) (fun k=>?_) (Ev.bind hb (Ev.bind hc ?_))
  ·rw [natural_Root.l0,(divide_eq n x (by omega) (by omega) (by omega)).1,Option.bind_some,plus_eq x (n / x) (by unfold Ok;omega) (by unfold Ok;omega),Option.bind_some]
  ·by_cases hst:x≤(x + n / x) / 2
   ·refine ⟨0,fun k _=>?_⟩
    dsimp only
    rw [if_pos ((ord_ge _ _).2 hst),text_eq _ (by unfold Ok;omega),newton_stop (rt n) n x hR hx hs hst]
    rfl
   ·have hlow:=newton_low (rt n) n x hR hx hs
    refine Ev.congr (f:=fun k=>natural_Root.l0 k (numOf n) (numOf ((x + n / x) / 2))) (fun k=>if_neg (fun h=>hst ((ord_ge _ _).1 h))) (ih _ (by omega) (by omega) hlow ?_)
    exact Nat.le_trans (len_mono (by omega)) lx
def Sm (a:ByteArray):Prop:=a.size≤1000
theorem len_pow10 (m:Nat):(numOf (10 ^ m)).length≤m + 1:=by
 refine len_le ?_
 have h1:(10:Nat) ^ m≤1000000000 ^ m:=Nat.pow_le_pow_left (by omega) m
 have h2:B ^ (m + 1) = ((1000000000 ^ (m + 1):Nat):Int):=by rw [Int.natCast_pow];rfl
 rw [h2,Nat.pow_succ]
 have:=Nat.pow_pos (n:=m) (show 0 < 1000000000 by omega)
 omega
theorem one_zeros (m:Nat) (rs:ByteArray) (h:bs rs = List.replicate m 48):nv ((⟨#[49]⟩:ByteArray) ++ rs) = true∧nat ((⟨#[49]⟩:ByteArray) ++ rs) = 10 ^ m:=by
 have hd:decDigits (10 ^ m) = 49 :: List.replicate m 48:=by
  have:=dec_pad m 1 0 (by omega) (Nat.pow_pos (by omega))
  rw [Nat.one_mul,Nat.add_zero] at this
  rw [this,pad_zero,dec_small 1 (by omega)]
  rfl
 have hb:bs ((⟨#[49]⟩:ByteArray) ++ rs) = decDigits (10 ^ m):=by
  rw [hd]
  unfold bs
  rw [ByteArray.data_append,Array.toList_append]
  show [49] ++ bs rs = _
  rw [h]
  rfl
 refine ⟨(nv_iff _).2 (by rw [hb];exact nml_dec _),?_⟩
 unfold nat
 rw [hb,pv_dec]
noncomputable def rootV (a:ByteArray):ByteArray × Int:=if nv a = true then (num (rt (nat a)),0) else (⟨#[]⟩,1)
theorem sq_lt {s t:Nat} (h:s * s < t * t):s < t:=by
 by_cases e:s < t
 ·exact e
 ·have:=Nat.mul_le_mul (Nat.le_of_not_lt e) (Nat.le_of_not_lt e)
  omega
theorem Root_ev (a:ByteArray) (ha:Sm a):Ev (fun k=>natural_Root.f k a) (rootV a):=by
 have hsz:a.size≤1000:=ha
 refine Ev.congr (fun k=>rfl) (Ev.bind (Valid_ev a (by omega)) ?_)
 unfold rootV
 by_cases h:nv a = true
 ·rw [if_pos h]
  have hl:=nat_len a h
  by_cases h0:nat a = 0
  ·have hz:rt (nat a) = 0:=by
    have h1:=(rt_spec (nat a)).1
    rw [h0] at h1 ⊢
    by_cases e:rt 0 = 0
    ·exact e
    ·have:=Nat.mul_le_mul (show 1≤rt 0 by omega) (show 1≤rt 0 by omega)
     omega
   refine ⟨0,fun k _=>?_⟩
   dsimp only
   rw [if_pos h,read_eq a (by omega) h,Option.bind_some,h0,numOf_zero,if_pos (by simp),← h0,hz]
   unfold num
   rw [dec_small 0 (by omega)]
   rfl
  ·have hp:=len_pos (Nat.pos_of_ne_zero h0)
   obtain ⟨m,hm⟩:∃ m,m = (a.size + 1) / 2:=⟨_,rfl⟩
   have hw:wrap64 (Int.tdiv (wrap64 ((a.size:Int) + 1)) 2) = (m:Int):=by
    rw [w64 (x:=(a.size:Int) + 1) (by omega) (by omega),Int.tdiv_eq_ediv_of_nonneg (by omega),w64 (by omega) (by omega)]
    omega
   obtain ⟨rs,hrs⟩:∃ rs:ByteArray,strings_Repeat.f (⟨#[48]⟩:ByteArray) (m:Int) = some rs∧bs rs = List.replicate m 48:=by
    refine ⟨⟨(Lib.repeatL [48] m).toArray⟩,?_,?_⟩
    ·unfold strings_Repeat.f
     rw [if_pos ⟨by omega,by omega,by
      rw [Int.toNat_natCast,show (⟨#[48]⟩:ByteArray).size = 1 from rfl]
      omega⟩,Int.toNat_natCast]
    ·show (Lib.repeatL [48] m).toArray.toList = _
     rw [repeatL_one]
   have hrz:rs.size = m:=by rw [← bs_length,hrs.2,List.length_replicate]
   obtain ⟨h1,h2⟩:=one_zeros m rs hrs.2
   have hlp:=len_pow10 m
   have hrt:rt (nat a)≤10 ^ m:=by
    have h3:=(rt_spec (nat a)).1
    have h4:=pv_lt (bs a) ((nv_iff a).1 h).1
    rw [bs_length] at h4
    have h5:(10:Nat) ^ a.size≤10 ^ (m + m):=Nat.pow_le_pow_right (by omega) (by omega)
    rw [Nat.pow_add] at h5
    have h6:nat a = pv (bs a):=rfl
    exact Nat.le_of_lt (sq_lt (by omega))
   refine Ev.congr (f:=fun k=>natural_Root.l0 k (numOf (nat a)) (numOf (10 ^ m))) (fun k=>?_) (root_loop (nat a) (Nat.pos_of_ne_zero h0) (by omega) (10 ^ m) (Nat.pow_pos (by omega)) hrt (by omega))
   rw [if_pos h,read_eq a (by omega) h,Option.bind_some,if_neg (by omega),hw,hrs.1,Option.bind_some,if_pos (by omega),read_eq _ (by rw [ByteArray.size_append,hrz,show (⟨#[49]⟩:ByteArray).size = 1 from rfl];omega) h1,Option.bind_some,h2]
 ·rw [if_neg h]
  have hf:nv a = false:=by simpa using h
  rw [hf]
  exact ⟨0,fun k _=>rfl⟩
def powV (a:ByteArray) (n:Int):ByteArray × Int:=if nv a = true then (if n < 0 then (⟨#[]⟩,2) else if n > 64 then (⟨#[]⟩,2) else (num (nat a ^ n.toNat),0)) else (⟨#[]⟩,1)
theorem pow_loop (n:Nat):∀ (o x:Nat),n≤1000→(numOf o).length + 4 * n * (numOf x).length≤100000000→(numOf x).length≤100000000→Ev (fun k=>natural_Pow.l0 k n (numOf o) (numOf x)) (num (o * x ^ n),0):=by
 induction n using Nat.strongRecOn with
 | ind n ih =>
  intro o x hn hlo hlx
  by_cases h0:n = 0
  ·subst h0
   refine Ev.step (f:=fun k=>some (num (o * x ^ 0),0)) (fun k=>?_) (Ev.now _)
   rw [natural_Pow.l0,if_neg (by omega),text_eq _ (by unfold Ok;omega),Nat.pow_zero,Nat.mul_one]
   rfl
  ·have hxx:=len_mul x x
   have hox:=len_mul o x
   have hlx2:4 * (numOf x).length≤4 * n * (numOf x).length:=Nat.mul_le_mul_right _ (by omega)
   have e1:4 * (n / 2) * (numOf (x * x)).length≤4 * (n / 2) * (2 * (numOf x).length):=Nat.mul_le_mul_left _ (by omega)
   have e2:4 * (n / 2) * (2 * (numOf x).length) + 4 * (n % 2) * (numOf x).length = 4 * n * (numOf x).length:=by
    conv=>rhs;rw [← Nat.div_add_mod n 2]
    rw [Nat.mul_add,Nat.add_mul,← Nat.mul_assoc,← Nat.mul_assoc,Nat.mul_right_comm 4 2,Nat.mul_assoc 4 (n/2) 2]
   have hw:wrap64 (Int.tdiv (n:Int) 2) = ((n / 2:Nat):Int):=by
    rw [Int.tdiv_eq_ediv_of_nonneg (by omega),w64 (by omega) (by omega)]
    omega
   have tx:=(times_ev x x (by unfold Ok;omega) (by unfold Ok;omega)).1
   have tox:=(times_ev o x (by unfold Ok;omega) (by unfold Ok;omega)).1
   have htm:Int.tmod (n:Int) 2 = ((n % 2:Nat):Int):=by rw [Int.tmod_eq_emod_of_nonneg (by omega)];rfl
   have hps:=pow_step x n
   by_cases hodd:n % 2 = 1
   ·rw [hodd] at e2
    have h1:=ih (n / 2) (by omega) (o * x) (x * x) (by omega) (by omega) (by omega)
    rw [if_pos hodd] at hps
    rw [hps,← Nat.mul_assoc]
    refine Ev.step (f:=fun k=>(natural_num_times.f k (numOf o) (numOf x)).bind fun t253=>((natural_num_times.f k (numOf x) (numOf x)).bind fun t256=>(natural_Pow.l0 k ((n / 2:Nat):Int) t253 t256))) (fun k=>?_) (Ev.bind tox (Ev.bind tx h1))
    rw [natural_Pow.l0,if_pos (by omega),htm,if_pos (by omega),hw]
   ·have h1:=ih (n / 2) (by omega) o (x * x) (by omega) (by omega) (by omega)
    rw [if_neg hodd,Nat.one_mul] at hps
    rw [hps]
    refine Ev.step (f:=fun k=>(natural_num_times.f k (numOf x) (numOf x)).bind fun t259=>(natural_Pow.l0 k ((n / 2:Nat):Int) (numOf o) t259)) (fun k=>?_) (Ev.bind tx h1)
    rw [natural_Pow.l0,if_pos (by omega),htm,if_neg (by omega),hw]
theorem Pow_ev (a:ByteArray) (n:Int) (ha:Sm a):Ev (fun k=>natural_Pow.f k a n) (powV a n):=by
 have hsz:a.size≤1000:=ha
 refine Ev.congr (fun k=>rfl) (Ev.bind (Valid_ev a (by omega)) ?_)
 unfold powV
 by_cases h:nv a = true
 ·rw [if_pos h,h]
  have hl:=nat_len a h
  by_cases h1:n < 0
  ·rw [if_pos h1]
   exact ⟨0,fun k _=>by dsimp only;rw [if_pos rfl,if_pos h1]⟩
  ·rw [if_neg h1]
   by_cases h2:n > 64
   ·rw [if_pos h2]
    exact ⟨0,fun k _=>by dsimp only;rw [if_pos rfl,if_neg h1,if_pos h2]⟩
   ·rw [if_neg h2]
    obtain ⟨m,rfl⟩:∃ m:Nat,n = m:=⟨n.toNat,by omega⟩
    have hone:numOf 1 = [1]:=numOf_one (by omega) (by omega)
    have hp:=pow_loop m 1 (nat a) (by omega) (by
     rw [hone]
     have:4 * m * (numOf (nat a)).length≤4 * 64 * 1000:=Nat.mul_le_mul (by omega) (by omega)
     simp
     omega) (by omega)
    rw [Nat.one_mul,hone] at hp
    refine Ev.congr (f:=fun k=>natural_Pow.l0 k (m:Int) [1] (numOf (nat a))) (fun k=>?_) hp
    rw [if_pos rfl,if_neg h1,if_neg h2,read_eq a (by omega) h,Option.bind_some]
 ·rw [if_neg h]
  have hf:nv a = false:=by simpa using h
  rw [hf]
  exact ⟨0,fun k _=>rfl⟩
end Go.Proofs.YtaopmkcghancmaaDoor.Pr
namespace Go.Proofs.YtaopmkcghancmaaDoor.Pr
open Go.RowKit Go.Proofs.YtaopmkcghancmaaDoorW.PrintWords Go.Proofs.YtaopmkcghancmaaDoorW.PrintLast Go.Proofs.YtaopmkcghancmaaDoorW.PrintMore
attribute [local go_sem] max2_int min2_int max_two min_two max_three min_three max_four min_four
set_option linter.unusedVariables false
set_option linter.unusedSimpArgs false
def garboardlaw01_awake.f (k:Nat) :Option (Bool):=(natural_Add.f (⟨#[49,48,48,48,48,48,48,48,48,48,48,48,48,48,48,48,48,48,48,48,48]⟩:ByteArray) (⟨#[49]⟩:ByteArray)).bind fun bt262=>((natural_DivMod.f k (⟨#[49,48,48,48,48,48,48,48,48,55]⟩:ByteArray) (⟨#[49,48]⟩:ByteArray)).bind fun bt264=>((natural_GCD.f (⟨#[56,52]⟩:ByteArray) (⟨#[51,54]⟩:ByteArray)).bind fun bt267=>((natural_Root.f k (⟨#[57,57]⟩:ByteArray)).bind fun bt269=>((natural_Pow.f k (⟨#[49,48]⟩:ByteArray) 20).bind fun bt271=>((natural_Mul.f (⟨#[57,57,57,57,57]⟩:ByteArray) (⟨#[57,57,57,57,57]⟩:ByteArray)).bind fun bt273=>((natural_Sub.f (⟨#[49,48,48,48]⟩:ByteArray) (⟨#[49]⟩:ByteArray)).bind fun bt275=>((natural_Compare.f k (⟨#[49,48]⟩:ByteArray) (⟨#[57]⟩:ByteArray)).bind fun bt277=>(if (wrap64 ((wrap64 ((wrap64 ((wrap64 ((wrap64 ((wrap64 ((wrap64 (bt262.2 + bt264.2.2)) + bt267.2)) + bt269.2)) + bt271.2)) + bt273.2)) + bt275.2)) + bt277.2)) = 0 then (if bt262.1.toList = ([49,48,48,48,48,48,48,48,48,48,48,48,48,48,48,48,48,48,48,48,49]:List UInt8) then (if bt264.1.toList = ([49,48,48,48,48,48,48,48,48]:List UInt8) then (if bt264.2.1.toList = ([55]:List UInt8) then (if bt267.1.toList = ([49,50]:List UInt8) then (if bt269.1.toList = ([57]:List UInt8) then (if bt271.1.toList = ([49,48,48,48,48,48,48,48,48,48,48,48,48,48,48,48,48,48,48,48,48]:List UInt8) then (if bt273.1.toList = ([57,57,57,57,56,48,48,48,48,49]:List UInt8) then (if bt275.1.toList = ([57,57,57]:List UInt8) then (if bt277.1 = 1 then ((natural_Valid.f k (⟨#[48,48,55]⟩:ByteArray)).bind fun t279=>(if t279 = true then (some false) else ((natural_Valid.f k (⟨#[]⟩:ByteArray)).bind fun t280=>(if t280 = true then (some false) else ((natural_Valid.f k (⟨#[48]⟩:ByteArray)).bind fun t281=>(some t281)))))) else (some false)) else (some false)) else (some false)) else (some false)) else (some false)) else (some false)) else (some false)) else (some false)) else (some false)) else (some false)))))))))
set_option maxHeartbeats 8000000 in
set_option maxRecDepth 100000 in
theorem garboardlaw01_awake.calls (k:Nat)  (r:Bool) (w:World) (hL:LaidW w) (h:garboardlaw01_awake.f k  = some r) :
  Calls Tryd.prog 11 #[] w fun e w'=>e = .returned (.bool r)∧Below w.heap.size w w':=by
 have HB:=Aside0.mk (Below.refl w.heap.size w)
 have HLW:=Aside0.mk hL
 clear hL
 have H:((natural_Add.f (⟨#[49,48,48,48,48,48,48,48,48,48,48,48,48,48,48,48,48,48,48,48,48]⟩:ByteArray) (⟨#[49]⟩:ByteArray)).bind fun bt262=>((natural_DivMod.f k (⟨#[49,48,48,48,48,48,48,48,48,55]⟩:ByteArray) (⟨#[49,48]⟩:ByteArray)).bind fun bt264=>((natural_GCD.f (⟨#[56,52]⟩:ByteArray) (⟨#[51,54]⟩:ByteArray)).bind fun bt267=>((natural_Root.f k (⟨#[57,57]⟩:ByteArray)).bind fun bt269=>((natural_Pow.f k (⟨#[49,48]⟩:ByteArray) 20).bind fun bt271=>((natural_Mul.f (⟨#[57,57,57,57,57]⟩:ByteArray) (⟨#[57,57,57,57,57]⟩:ByteArray)).bind fun bt273=>((natural_Sub.f (⟨#[49,48,48,48]⟩:ByteArray) (⟨#[49]⟩:ByteArray)).bind fun bt275=>((natural_Compare.f k (⟨#[49,48]⟩:ByteArray) (⟨#[57]⟩:ByteArray)).bind fun bt277=>(if (wrap64 ((wrap64 ((wrap64 ((wrap64 ((wrap64 ((wrap64 ((wrap64 (bt262.2 + bt264.2.2)) + bt267.2)) + bt269.2)) + bt271.2)) + bt273.2)) + bt275.2)) + bt277.2)) = 0 then (if bt262.1.toList = ([49,48,48,48,48,48,48,48,48,48,48,48,48,48,48,48,48,48,48,48,49]:List UInt8) then (if bt264.1.toList = ([49,48,48,48,48,48,48,48,48]:List UInt8) then (if bt264.2.1.toList = ([55]:List UInt8) then (if bt267.1.toList = ([49,50]:List UInt8) then (if bt269.1.toList = ([57]:List UInt8) then (if bt271.1.toList = ([49,48,48,48,48,48,48,48,48,48,48,48,48,48,48,48,48,48,48,48,48]:List UInt8) then (if bt273.1.toList = ([57,57,57,57,56,48,48,48,48,49]:List UInt8) then (if bt275.1.toList = ([57,57,57]:List UInt8) then (if bt277.1 = 1 then ((natural_Valid.f k (⟨#[48,48,55]⟩:ByteArray)).bind fun t279=>(if t279 = true then (some false) else ((natural_Valid.f k (⟨#[]⟩:ByteArray)).bind fun t280=>(if t280 = true then (some false) else ((natural_Valid.f k (⟨#[48]⟩:ByteArray)).bind fun t281=>(some t281)))))) else (some false)) else (some false)) else (some false)) else (some false)) else (some false)) else (some false)) else (some false)) else (some false)) else (some false)) else (some false)))))))))) = some r:=h
 clear h
 replace H:=Option.bind_eq_some_iff.mp H
 obtain ⟨⟨t262,t263⟩,A10,H⟩:=H
 replace H:((natural_DivMod.f k (⟨#[49,48,48,48,48,48,48,48,48,55]⟩:ByteArray) (⟨#[49,48]⟩:ByteArray)).bind fun bt264=>((natural_GCD.f (⟨#[56,52]⟩:ByteArray) (⟨#[51,54]⟩:ByteArray)).bind fun bt267=>((natural_Root.f k (⟨#[57,57]⟩:ByteArray)).bind fun bt269=>((natural_Pow.f k (⟨#[49,48]⟩:ByteArray) 20).bind fun bt271=>((natural_Mul.f (⟨#[57,57,57,57,57]⟩:ByteArray) (⟨#[57,57,57,57,57]⟩:ByteArray)).bind fun bt273=>((natural_Sub.f (⟨#[49,48,48,48]⟩:ByteArray) (⟨#[49]⟩:ByteArray)).bind fun bt275=>((natural_Compare.f k (⟨#[49,48]⟩:ByteArray) (⟨#[57]⟩:ByteArray)).bind fun bt277=>(if (wrap64 ((wrap64 ((wrap64 ((wrap64 ((wrap64 ((wrap64 ((wrap64 (t263 + bt264.2.2)) + bt267.2)) + bt269.2)) + bt271.2)) + bt273.2)) + bt275.2)) + bt277.2)) = 0 then (if t262.toList = ([49,48,48,48,48,48,48,48,48,48,48,48,48,48,48,48,48,48,48,48,49]:List UInt8) then (if bt264.1.toList = ([49,48,48,48,48,48,48,48,48]:List UInt8) then (if bt264.2.1.toList = ([55]:List UInt8) then (if bt267.1.toList = ([49,50]:List UInt8) then (if bt269.1.toList = ([57]:List UInt8) then (if bt271.1.toList = ([49,48,48,48,48,48,48,48,48,48,48,48,48,48,48,48,48,48,48,48,48]:List UInt8) then (if bt273.1.toList = ([57,57,57,57,56,48,48,48,48,49]:List UInt8) then (if bt275.1.toList = ([57,57,57]:List UInt8) then (if bt277.1 = 1 then ((natural_Valid.f k (⟨#[48,48,55]⟩:ByteArray)).bind fun t279=>(if t279 = true then (some false) else ((natural_Valid.f k (⟨#[]⟩:ByteArray)).bind fun t280=>(if t280 = true then (some false) else ((natural_Valid.f k (⟨#[48]⟩:ByteArray)).bind fun t281=>(some t281)))))) else (some false)) else (some false)) else (some false)) else (some false)) else (some false)) else (some false)) else (some false)) else (some false)) else (some false)) else (some false))))))))) = some r:=H
 have A1:=Aside0.mk A10
 clear A10
 replace H:=Option.bind_eq_some_iff.mp H
 obtain ⟨⟨t264,t265,t266⟩,A20,H⟩:=H
 replace H:((natural_GCD.f (⟨#[56,52]⟩:ByteArray) (⟨#[51,54]⟩:ByteArray)).bind fun bt267=>((natural_Root.f k (⟨#[57,57]⟩:ByteArray)).bind fun bt269=>((natural_Pow.f k (⟨#[49,48]⟩:ByteArray) 20).bind fun bt271=>((natural_Mul.f (⟨#[57,57,57,57,57]⟩:ByteArray) (⟨#[57,57,57,57,57]⟩:ByteArray)).bind fun bt273=>((natural_Sub.f (⟨#[49,48,48,48]⟩:ByteArray) (⟨#[49]⟩:ByteArray)).bind fun bt275=>((natural_Compare.f k (⟨#[49,48]⟩:ByteArray) (⟨#[57]⟩:ByteArray)).bind fun bt277=>(if (wrap64 ((wrap64 ((wrap64 ((wrap64 ((wrap64 ((wrap64 ((wrap64 (t263 + t266)) + bt267.2)) + bt269.2)) + bt271.2)) + bt273.2)) + bt275.2)) + bt277.2)) = 0 then (if t262.toList = ([49,48,48,48,48,48,48,48,48,48,48,48,48,48,48,48,48,48,48,48,49]:List UInt8) then (if t264.toList = ([49,48,48,48,48,48,48,48,48]:List UInt8) then (if t265.toList = ([55]:List UInt8) then (if bt267.1.toList = ([49,50]:List UInt8) then (if bt269.1.toList = ([57]:List UInt8) then (if bt271.1.toList = ([49,48,48,48,48,48,48,48,48,48,48,48,48,48,48,48,48,48,48,48,48]:List UInt8) then (if bt273.1.toList = ([57,57,57,57,56,48,48,48,48,49]:List UInt8) then (if bt275.1.toList = ([57,57,57]:List UInt8) then (if bt277.1 = 1 then ((natural_Valid.f k (⟨#[48,48,55]⟩:ByteArray)).bind fun t279=>(if t279 = true then (some false) else ((natural_Valid.f k (⟨#[]⟩:ByteArray)).bind fun t280=>(if t280 = true then (some false) else ((natural_Valid.f k (⟨#[48]⟩:ByteArray)).bind fun t281=>(some t281)))))) else (some false)) else (some false)) else (some false)) else (some false)) else (some false)) else (some false)) else (some false)) else (some false)) else (some false)) else (some false)))))))) = some r:=H
 have A2:=Aside0.mk A20
 clear A20
 replace H:=Option.bind_eq_some_iff.mp H
 obtain ⟨⟨t267,t268⟩,A30,H⟩:=H
 replace H:((natural_Root.f k (⟨#[57,57]⟩:ByteArray)).bind fun bt269=>((natural_Pow.f k (⟨#[49,48]⟩:ByteArray) 20).bind fun bt271=>((natural_Mul.f (⟨#[57,57,57,57,57]⟩:ByteArray) (⟨#[57,57,57,57,57]⟩:ByteArray)).bind fun bt273=>((natural_Sub.f (⟨#[49,48,48,48]⟩:ByteArray) (⟨#[49]⟩:ByteArray)).bind fun bt275=>((natural_Compare.f k (⟨#[49,48]⟩:ByteArray) (⟨#[57]⟩:ByteArray)).bind fun bt277=>(if (wrap64 ((wrap64 ((wrap64 ((wrap64 ((wrap64 ((wrap64 ((wrap64 (t263 + t266)) + t268)) + bt269.2)) + bt271.2)) + bt273.2)) + bt275.2)) + bt277.2)) = 0 then (if t262.toList = ([49,48,48,48,48,48,48,48,48,48,48,48,48,48,48,48,48,48,48,48,49]:List UInt8) then (if t264.toList = ([49,48,48,48,48,48,48,48,48]:List UInt8) then (if t265.toList = ([55]:List UInt8) then (if t267.toList = ([49,50]:List UInt8) then (if bt269.1.toList = ([57]:List UInt8) then (if bt271.1.toList = ([49,48,48,48,48,48,48,48,48,48,48,48,48,48,48,48,48,48,48,48,48]:List UInt8) then (if bt273.1.toList = ([57,57,57,57,56,48,48,48,48,49]:List UInt8) then (if bt275.1.toList = ([57,57,57]:List UInt8) then (if bt277.1 = 1 then ((natural_Valid.f k (⟨#[48,48,55]⟩:ByteArray)).bind fun t279=>(if t279 = true then (some false) else ((natural_Valid.f k (⟨#[]⟩:ByteArray)).bind fun t280=>(if t280 = true then (some false) else ((natural_Valid.f k (⟨#[48]⟩:ByteArray)).bind fun t281=>(some t281)))))) else (some false)) else (some false)) else (some false)) else (some false)) else (some false)) else (some false)) else (some false)) else (some false)) else (some false)) else (some false))))))) = some r:=H
 have A3:=Aside0.mk A30
 clear A30
 replace H:=Option.bind_eq_some_iff.mp H
 obtain ⟨⟨t269,t270⟩,A40,H⟩:=H
 replace H:((natural_Pow.f k (⟨#[49,48]⟩:ByteArray) 20).bind fun bt271=>((natural_Mul.f (⟨#[57,57,57,57,57]⟩:ByteArray) (⟨#[57,57,57,57,57]⟩:ByteArray)).bind fun bt273=>((natural_Sub.f (⟨#[49,48,48,48]⟩:ByteArray) (⟨#[49]⟩:ByteArray)).bind fun bt275=>((natural_Compare.f k (⟨#[49,48]⟩:ByteArray) (⟨#[57]⟩:ByteArray)).bind fun bt277=>(if (wrap64 ((wrap64 ((wrap64 ((wrap64 ((wrap64 ((wrap64 ((wrap64 (t263 + t266)) + t268)) + t270)) + bt271.2)) + bt273.2)) + bt275.2)) + bt277.2)) = 0 then (if t262.toList = ([49,48,48,48,48,48,48,48,48,48,48,48,48,48,48,48,48,48,48,48,49]:List UInt8) then (if t264.toList = ([49,48,48,48,48,48,48,48,48]:List UInt8) then (if t265.toList = ([55]:List UInt8) then (if t267.toList = ([49,50]:List UInt8) then (if t269.toList = ([57]:List UInt8) then (if bt271.1.toList = ([49,48,48,48,48,48,48,48,48,48,48,48,48,48,48,48,48,48,48,48,48]:List UInt8) then (if bt273.1.toList = ([57,57,57,57,56,48,48,48,48,49]:List UInt8) then (if bt275.1.toList = ([57,57,57]:List UInt8) then (if bt277.1 = 1 then ((natural_Valid.f k (⟨#[48,48,55]⟩:ByteArray)).bind fun t279=>(if t279 = true then (some false) else ((natural_Valid.f k (⟨#[]⟩:ByteArray)).bind fun t280=>(if t280 = true then (some false) else ((natural_Valid.f k (⟨#[48]⟩:ByteArray)).bind fun t281=>(some t281)))))) else (some false)) else (some false)) else (some false)) else (some false)) else (some false)) else (some false)) else (some false)) else (some false)) else (some false)) else (some false)))))) = some r:=H
 have A4:=Aside0.mk A40
 clear A40
 replace H:=Option.bind_eq_some_iff.mp H
 obtain ⟨⟨t271,t272⟩,A50,H⟩:=H
 replace H:((natural_Mul.f (⟨#[57,57,57,57,57]⟩:ByteArray) (⟨#[57,57,57,57,57]⟩:ByteArray)).bind fun bt273=>((natural_Sub.f (⟨#[49,48,48,48]⟩:ByteArray) (⟨#[49]⟩:ByteArray)).bind fun bt275=>((natural_Compare.f k (⟨#[49,48]⟩:ByteArray) (⟨#[57]⟩:ByteArray)).bind fun bt277=>(if (wrap64 ((wrap64 ((wrap64 ((wrap64 ((wrap64 ((wrap64 ((wrap64 (t263 + t266)) + t268)) + t270)) + t272)) + bt273.2)) + bt275.2)) + bt277.2)) = 0 then (if t262.toList = ([49,48,48,48,48,48,48,48,48,48,48,48,48,48,48,48,48,48,48,48,49]:List UInt8) then (if t264.toList = ([49,48,48,48,48,48,48,48,48]:List UInt8) then (if t265.toList = ([55]:List UInt8) then (if t267.toList = ([49,50]:List UInt8) then (if t269.toList = ([57]:List UInt8) then (if t271.toList = ([49,48,48,48,48,48,48,48,48,48,48,48,48,48,48,48,48,48,48,48,48]:List UInt8) then (if bt273.1.toList = ([57,57,57,57,56,48,48,48,48,49]:List UInt8) then (if bt275.1.toList = ([57,57,57]:List UInt8) then (if bt277.1 = 1 then ((natural_Valid.f k (⟨#[48,48,55]⟩:ByteArray)).bind fun t279=>(if t279 = true then (some false) else ((natural_Valid.f k (⟨#[]⟩:ByteArray)).bind fun t280=>(if t280 = true then (some false) else ((natural_Valid.f k (⟨#[48]⟩:ByteArray)).bind fun t281=>(some t281)))))) else (some false)) else (some false)) else (some false)) else (some false)) else (some false)) else (some false)) else (some false)) else (some false)) else (some false)) else (some false))))) = some r:=H
 have A5:=Aside0.mk A50
 clear A50
 replace H:=Option.bind_eq_some_iff.mp H
 obtain ⟨⟨t273,t274⟩,A60,H⟩:=H
 replace H:((natural_Sub.f (⟨#[49,48,48,48]⟩:ByteArray) (⟨#[49]⟩:ByteArray)).bind fun bt275=>((natural_Compare.f k (⟨#[49,48]⟩:ByteArray) (⟨#[57]⟩:ByteArray)).bind fun bt277=>(if (wrap64 ((wrap64 ((wrap64 ((wrap64 ((wrap64 ((wrap64 ((wrap64 (t263 + t266)) + t268)) + t270)) + t272)) + t274)) + bt275.2)) + bt277.2)) = 0 then (if t262.toList = ([49,48,48,48,48,48,48,48,48,48,48,48,48,48,48,48,48,48,48,48,49]:List UInt8) then (if t264.toList = ([49,48,48,48,48,48,48,48,48]:List UInt8) then (if t265.toList = ([55]:List UInt8) then (if t267.toList = ([49,50]:List UInt8) then (if t269.toList = ([57]:List UInt8) then (if t271.toList = ([49,48,48,48,48,48,48,48,48,48,48,48,48,48,48,48,48,48,48,48,48]:List UInt8) then (if t273.toList = ([57,57,57,57,56,48,48,48,48,49]:List UInt8) then (if bt275.1.toList = ([57,57,57]:List UInt8) then (if bt277.1 = 1 then ((natural_Valid.f k (⟨#[48,48,55]⟩:ByteArray)).bind fun t279=>(if t279 = true then (some false) else ((natural_Valid.f k (⟨#[]⟩:ByteArray)).bind fun t280=>(if t280 = true then (some false) else ((natural_Valid.f k (⟨#[48]⟩:ByteArray)).bind fun t281=>(some t281)))))) else (some false)) else (some false)) else (some false)) else (some false)) else (some false)) else (some false)) else (some false)) else (some false)) else (some false)) else (some false)))) = some r:=H
 have A6:=Aside0.mk A60
 clear A60
 replace H:=Option.bind_eq_some_iff.mp H
 obtain ⟨⟨t275,t276⟩,A70,H⟩:=H
 replace H:((natural_Compare.f k (⟨#[49,48]⟩:ByteArray) (⟨#[57]⟩:ByteArray)).bind fun bt277=>(if (wrap64 ((wrap64 ((wrap64 ((wrap64 ((wrap64 ((wrap64 ((wrap64 (t263 + t266)) + t268)) + t270)) + t272)) + t274)) + t276)) + bt277.2)) = 0 then (if t262.toList = ([49,48,48,48,48,48,48,48,48,48,48,48,48,48,48,48,48,48,48,48,49]:List UInt8) then (if t264.toList = ([49,48,48,48,48,48,48,48,48]:List UInt8) then (if t265.toList = ([55]:List UInt8) then (if t267.toList = ([49,50]:List UInt8) then (if t269.toList = ([57]:List UInt8) then (if t271.toList = ([49,48,48,48,48,48,48,48,48,48,48,48,48,48,48,48,48,48,48,48,48]:List UInt8) then (if t273.toList = ([57,57,57,57,56,48,48,48,48,49]:List UInt8) then (if t275.toList = ([57,57,57]:List UInt8) then (if bt277.1 = 1 then ((natural_Valid.f k (⟨#[48,48,55]⟩:ByteArray)).bind fun t279=>(if t279 = true then (some false) else ((natural_Valid.f k (⟨#[]⟩:ByteArray)).bind fun t280=>(if t280 = true then (some false) else ((natural_Valid.f k (⟨#[48]⟩:ByteArray)).bind fun t281=>(some t281)))))) else (some false)) else (some false)) else (some false)) else (some false)) else (some false)) else (some false)) else (some false)) else (some false)) else (some false)) else (some false))) = some r:=H
 have A7:=Aside0.mk A70
 clear A70
 replace H:=Option.bind_eq_some_iff.mp H
 obtain ⟨⟨t277,t278⟩,A80,H⟩:=H
 replace H:(if (wrap64 ((wrap64 ((wrap64 ((wrap64 ((wrap64 ((wrap64 ((wrap64 (t263 + t266)) + t268)) + t270)) + t272)) + t274)) + t276)) + t278)) = 0 then (if t262.toList = ([49,48,48,48,48,48,48,48,48,48,48,48,48,48,48,48,48,48,48,48,49]:List UInt8) then (if t264.toList = ([49,48,48,48,48,48,48,48,48]:List UInt8) then (if t265.toList = ([55]:List UInt8) then (if t267.toList = ([49,50]:List UInt8) then (if t269.toList = ([57]:List UInt8) then (if t271.toList = ([49,48,48,48,48,48,48,48,48,48,48,48,48,48,48,48,48,48,48,48,48]:List UInt8) then (if t273.toList = ([57,57,57,57,56,48,48,48,48,49]:List UInt8) then (if t275.toList = ([57,57,57]:List UInt8) then (if t277 = 1 then ((natural_Valid.f k (⟨#[48,48,55]⟩:ByteArray)).bind fun t279=>(if t279 = true then (some false) else ((natural_Valid.f k (⟨#[]⟩:ByteArray)).bind fun t280=>(if t280 = true then (some false) else ((natural_Valid.f k (⟨#[48]⟩:ByteArray)).bind fun t281=>(some t281)))))) else (some false)) else (some false)) else (some false)) else (some false)) else (some false)) else (some false)) else (some false)) else (some false)) else (some false)) else (some false)) = some r:=H
 have A8:=Aside0.mk A80
 clear A80
 by_cases c9:(wrap64 ((wrap64 ((wrap64 ((wrap64 ((wrap64 ((wrap64 ((wrap64 (t263 + t266)) + t268)) + t270)) + t272)) + t274)) + t276)) + t278)) = 0
 ·rw [if_pos c9] at H
  have c9b0:((wrap64 ((wrap64 ((wrap64 ((wrap64 ((wrap64 ((wrap64 ((wrap64 (t263 + t266)) + t268)) + t270)) + t272)) + t274)) + t276)) + t278)) == 0) = true:=beq_iff_eq.mpr c9
  have c9b1:((wrap64 ((wrap64 ((wrap64 ((wrap64 ((wrap64 ((wrap64 ((wrap64 (t263 + t266)) + t268)) + t270)) + t272)) + t274)) + t276)) + t278)) != 0) = false:=bne_eq_false_iff_eq.mpr c9
  clear c9
  by_cases c10:t262.toList = ([49,48,48,48,48,48,48,48,48,48,48,48,48,48,48,48,48,48,48,48,49]:List UInt8)
  ·rw [if_pos c10] at H
   have c10b0:(t262.toList == ([49,48,48,48,48,48,48,48,48,48,48,48,48,48,48,48,48,48,48,48,49]:List UInt8)) = true:=beq_iff_eq.mpr c10
   have c10b1:(t262.toList != ([49,48,48,48,48,48,48,48,48,48,48,48,48,48,48,48,48,48,48,48,49]:List UInt8)) = false:=bne_eq_false_iff_eq.mpr c10
   clear c10
   by_cases c11:t264.toList = ([49,48,48,48,48,48,48,48,48]:List UInt8)
   ·rw [if_pos c11] at H
    have c11b0:(t264.toList == ([49,48,48,48,48,48,48,48,48]:List UInt8)) = true:=beq_iff_eq.mpr c11
    have c11b1:(t264.toList != ([49,48,48,48,48,48,48,48,48]:List UInt8)) = false:=bne_eq_false_iff_eq.mpr c11
    clear c11
    by_cases c12:t265.toList = ([55]:List UInt8)
    ·rw [if_pos c12] at H
     have c12b0:(t265.toList == ([55]:List UInt8)) = true:=beq_iff_eq.mpr c12
     have c12b1:(t265.toList != ([55]:List UInt8)) = false:=bne_eq_false_iff_eq.mpr c12
     clear c12
     by_cases c13:t267.toList = ([49,50]:List UInt8)
     ·rw [if_pos c13] at H
      have c13b0:(t267.toList == ([49,50]:List UInt8)) = true:=beq_iff_eq.mpr c13
      have c13b1:(t267.toList != ([49,50]:List UInt8)) = false:=bne_eq_false_iff_eq.mpr c13
      clear c13
      by_cases c14:t269.toList = ([57]:List UInt8)
      ·rw [if_pos c14] at H
       have c14b0:(t269.toList == ([57]:List UInt8)) = true:=beq_iff_eq.mpr c14
       have c14b1:(t269.toList != ([57]:List UInt8)) = false:=bne_eq_false_iff_eq.mpr c14
       clear c14
       by_cases c15:t271.toList = ([49,48,48,48,48,48,48,48,48,48,48,48,48,48,48,48,48,48,48,48,48]:List UInt8)
       ·rw [if_pos c15] at H
        have c15b0:(t271.toList == ([49,48,48,48,48,48,48,48,48,48,48,48,48,48,48,48,48,48,48,48,48]:List UInt8)) = true:=beq_iff_eq.mpr c15
        have c15b1:(t271.toList != ([49,48,48,48,48,48,48,48,48,48,48,48,48,48,48,48,48,48,48,48,48]:List UInt8)) = false:=bne_eq_false_iff_eq.mpr c15
        clear c15
        by_cases c16:t273.toList = ([57,57,57,57,56,48,48,48,48,49]:List UInt8)
        ·rw [if_pos c16] at H
         have c16b0:(t273.toList == ([57,57,57,57,56,48,48,48,48,49]:List UInt8)) = true:=beq_iff_eq.mpr c16
         have c16b1:(t273.toList != ([57,57,57,57,56,48,48,48,48,49]:List UInt8)) = false:=bne_eq_false_iff_eq.mpr c16
         clear c16
         by_cases c17:t275.toList = ([57,57,57]:List UInt8)
         ·rw [if_pos c17] at H
          have c17b0:(t275.toList == ([57,57,57]:List UInt8)) = true:=beq_iff_eq.mpr c17
          have c17b1:(t275.toList != ([57,57,57]:List UInt8)) = false:=bne_eq_false_iff_eq.mpr c17
          clear c17
          by_cases c18:t277 = 1
          ·rw [if_pos c18] at H
           have c18b0:(t277 == 1) = true:=beq_iff_eq.mpr c18
           have c18b1:(t277 != 1) = false:=bne_eq_false_iff_eq.mpr c18
           clear c18
           replace H:=Option.bind_eq_some_iff.mp H
           obtain ⟨t279,A190,H⟩:=H
           replace H:(if t279 = true then (some false) else ((natural_Valid.f k (⟨#[]⟩:ByteArray)).bind fun t280=>(if t280 = true then (some false) else ((natural_Valid.f k (⟨#[48]⟩:ByteArray)).bind fun t281=>(some t281))))) = some r:=H
           have A19:=Aside0.mk A190
           clear A190
           by_cases c20:t279 = true
           ·subst c20
            have H1:(some false) = some r:=by rw [if_pos rfl] at H;exact H
            clear H
            have H:=H1
            clear H1
            obtain rfl:=Option.some.inj H
            go_enter Tryd.func11,Tryd.ntmps11
            go_wp2_with (first|((with_reducible refine gate_callee (f:=17) rfl ?_);refine goesL_ (some 19) rfl rfl Tryd.func17 (by kernel_rfl) rfl #[.string (⟨#[49,48,48,48,48,48,48,48,48,48,48,48,48,48,48,48,48,48,48,48,48]⟩:ByteArray),.string (⟨#[49]⟩:ByteArray)] rfl (by (try simp only [List.map_toArray,List.map_cons,List.map_nil]);first|done|rfl|(simp only [List.length_drop,List.length_take];rfl)) ?_;(with_reducible refine (natural_Add.calls (⟨#[49,48,48,48,48,48,48,48,48,48,48,48,48,48,48,48,48,48,48,48,48]⟩:ByteArray) (⟨#[49]⟩:ByteArray) t262 t263 _ ?side1 A1.out).mono ?_);(case side1=>exact HLW.out.below (by repeat (first|(with_reducible first|exact HB.out|apply below_alloc|apply pw_below_drewN|apply below_drew1)|exact HB.out)));rintro e w21 ⟨rfl,hb⟩;refine ⟨_,rfl,?_⟩;have n0_:=Aside0.mk (below_step (by repeat (first|(with_reducible first|exact HB.out|apply below_alloc|apply pw_below_drewN|apply below_drew1)|exact HB.out)) hb);clear HB;have HB:=n0_;clear n0_;(try clear hb);(try clear hb2);(try clear hk);(try clear hi))|((with_reducible refine gate_callee (f:=23) rfl ?_);refine goesL_ (some 23) rfl rfl Tryd.func23 (by kernel_rfl) rfl #[.string (⟨#[49,48,48,48,48,48,48,48,48,55]⟩:ByteArray),.string (⟨#[49,48]⟩:ByteArray)] rfl (by (try simp only [List.map_toArray,List.map_cons,List.map_nil]);first|done|rfl|(simp only [List.length_drop,List.length_take];rfl)) ?_;(with_reducible refine (natural_DivMod.calls k (⟨#[49,48,48,48,48,48,48,48,48,55]⟩:ByteArray) (⟨#[49,48]⟩:ByteArray) t264 t265 t266 _ ?side1 A2.out).mono ?_);(case side1=>exact HLW.out.below (by repeat (first|(with_reducible first|exact HB.out|apply below_alloc|apply pw_below_drewN|apply below_drew1)|exact HB.out)));rintro e w22 ⟨rfl,hb⟩;refine ⟨_,rfl,?_⟩;have n0_:=Aside0.mk (below_step (by repeat (first|(with_reducible first|exact HB.out|apply below_alloc|apply pw_below_drewN|apply below_drew1)|exact HB.out)) hb);clear HB;have HB:=n0_;clear n0_;(try clear hb);(try clear hb2);(try clear hk);(try clear hi))|((with_reducible refine gate_callee (f:=25) rfl ?_);refine goesL_ (some 28) rfl rfl Tryd.func25 (by kernel_rfl) rfl #[.string (⟨#[56,52]⟩:ByteArray),.string (⟨#[51,54]⟩:ByteArray)] rfl (by (try simp only [List.map_toArray,List.map_cons,List.map_nil]);first|done|rfl|(simp only [List.length_drop,List.length_take];rfl)) ?_;(with_reducible refine (natural_GCD.calls (⟨#[56,52]⟩:ByteArray) (⟨#[51,54]⟩:ByteArray) t267 t268 _ ?side1 A3.out).mono ?_);(case side1=>exact HLW.out.below (by repeat (first|(with_reducible first|exact HB.out|apply below_alloc|apply pw_below_drewN|apply below_drew1)|exact HB.out)));rintro e w23 ⟨rfl,hb⟩;refine ⟨_,rfl,?_⟩;have n0_:=Aside0.mk (below_step (by repeat (first|(with_reducible first|exact HB.out|apply below_alloc|apply pw_below_drewN|apply below_drew1)|exact HB.out)) hb);clear HB;have HB:=n0_;clear n0_;(try clear hb);(try clear hb2);(try clear hk);(try clear hi))|((with_reducible refine gate_callee (f:=27) rfl ?_);refine goesL_ (some 32) rfl rfl Tryd.func27 (by kernel_rfl) rfl #[.string (⟨#[57,57]⟩:ByteArray)] rfl (by (try simp only [List.map_toArray,List.map_cons,List.map_nil]);first|done|rfl|(simp only [List.length_drop,List.length_take];rfl)) ?_;(with_reducible refine (natural_Root.calls k (⟨#[57,57]⟩:ByteArray) t269 t270 _ ?side1 A4.out).mono ?_);(case side1=>exact HLW.out.below (by repeat (first|(with_reducible first|exact HB.out|apply below_alloc|apply pw_below_drewN|apply below_drew1)|exact HB.out)));rintro e w24 ⟨rfl,hb⟩;refine ⟨_,rfl,?_⟩;have n0_:=Aside0.mk (below_step (by repeat (first|(with_reducible first|exact HB.out|apply below_alloc|apply pw_below_drewN|apply below_drew1)|exact HB.out)) hb);clear HB;have HB:=n0_;clear n0_;(try clear hb);(try clear hb2);(try clear hk);(try clear hi))|((with_reducible refine gate_callee (f:=29) rfl ?_);refine goesL_ (some 36) rfl rfl Tryd.func29 (by kernel_rfl) rfl #[.string (⟨#[49,48]⟩:ByteArray),.int .i64 20] rfl (by (try simp only [List.map_toArray,List.map_cons,List.map_nil]);first|done|rfl|(simp only [List.length_drop,List.length_take];rfl)) ?_;(with_reducible refine (natural_Pow.calls k (⟨#[49,48]⟩:ByteArray) 20 t271 t272 _ ?side1 A5.out).mono ?_);(case side1=>exact HLW.out.below (by repeat (first|(with_reducible first|exact HB.out|apply below_alloc|apply pw_below_drewN|apply below_drew1)|exact HB.out)));rintro e w25 ⟨rfl,hb⟩;refine ⟨_,rfl,?_⟩;have n0_:=Aside0.mk (below_step (by repeat (first|(with_reducible first|exact HB.out|apply below_alloc|apply pw_below_drewN|apply below_drew1)|exact HB.out)) hb);clear HB;have HB:=n0_;clear n0_;(try clear hb);(try clear hb2);(try clear hk);(try clear hi))|((with_reducible refine gate_callee (f:=21) rfl ?_);refine goesL_ (some 40) rfl rfl Tryd.func21 (by kernel_rfl) rfl #[.string (⟨#[57,57,57,57,57]⟩:ByteArray),.string (⟨#[57,57,57,57,57]⟩:ByteArray)] rfl (by (try simp only [List.map_toArray,List.map_cons,List.map_nil]);first|done|rfl|(simp only [List.length_drop,List.length_take];rfl)) ?_;(with_reducible refine (natural_Mul.calls (⟨#[57,57,57,57,57]⟩:ByteArray) (⟨#[57,57,57,57,57]⟩:ByteArray) t273 t274 _ ?side1 A6.out).mono ?_);(case side1=>exact HLW.out.below (by repeat (first|(with_reducible first|exact HB.out|apply below_alloc|apply pw_below_drewN|apply below_drew1)|exact HB.out)));rintro e w26 ⟨rfl,hb⟩;refine ⟨_,rfl,?_⟩;have n0_:=Aside0.mk (below_step (by repeat (first|(with_reducible first|exact HB.out|apply below_alloc|apply pw_below_drewN|apply below_drew1)|exact HB.out)) hb);clear HB;have HB:=n0_;clear n0_;(try clear hb);(try clear hb2);(try clear hk);(try clear hi))|((with_reducible refine gate_callee (f:=19) rfl ?_);refine goesL_ (some 44) rfl rfl Tryd.func19 (by kernel_rfl) rfl #[.string (⟨#[49,48,48,48]⟩:ByteArray),.string (⟨#[49]⟩:ByteArray)] rfl (by (try simp only [List.map_toArray,List.map_cons,List.map_nil]);first|done|rfl|(simp only [List.length_drop,List.length_take];rfl)) ?_;(with_reducible refine (natural_Sub.calls (⟨#[49,48,48,48]⟩:ByteArray) (⟨#[49]⟩:ByteArray) t275 t276 _ ?side1 A7.out).mono ?_);(case side1=>exact HLW.out.below (by repeat (first|(with_reducible first|exact HB.out|apply below_alloc|apply pw_below_drewN|apply below_drew1)|exact HB.out)));rintro e w27 ⟨rfl,hb⟩;refine ⟨_,rfl,?_⟩;have n0_:=Aside0.mk (below_step (by repeat (first|(with_reducible first|exact HB.out|apply below_alloc|apply pw_below_drewN|apply below_drew1)|exact HB.out)) hb);clear HB;have HB:=n0_;clear n0_;(try clear hb);(try clear hb2);(try clear hk);(try clear hi))|((with_reducible refine gate_callee (f:=13) rfl ?_);refine goesL_ (some 48) rfl rfl Tryd.func13 (by kernel_rfl) rfl #[.string (⟨#[49,48]⟩:ByteArray),.string (⟨#[57]⟩:ByteArray)] rfl (by (try simp only [List.map_toArray,List.map_cons,List.map_nil]);first|done|rfl|(simp only [List.length_drop,List.length_take];rfl)) ?_;(with_reducible refine (natural_Compare.calls k (⟨#[49,48]⟩:ByteArray) (⟨#[57]⟩:ByteArray) t277 t278 _ A8.out).mono ?_);rintro e w28 ⟨rfl,hb⟩;refine ⟨_,rfl,?_⟩;have n0_:=Aside0.mk (below_step (by repeat (first|(with_reducible first|exact HB.out|apply below_alloc|apply pw_below_drewN|apply below_drew1)|exact HB.out)) hb);clear HB;have HB:=n0_;clear n0_;(try clear hb);(try clear hb2);(try clear hk);(try clear hi))|(go_at_call 15;(with_reducible refine (natural_Valid.calls k (⟨#[48,48,55]⟩:ByteArray) true _ A19.out).mono ?_);rintro e w' ⟨rfl,⟨nd,rfl⟩⟩))
            go_ret
            exact ⟨by first|rfl|(simp [errW_none,errW_some]<;>rfl)|(simp [*,errW_none,errW_some]<;>rfl),by repeat (first|(with_reducible first|exact HB.out|apply below_alloc|apply pw_below_drewN|apply below_drew1)|exact HB.out)⟩
           ·replace c20:=Bool.eq_false_iff.mpr c20
            subst c20
            have H1:((natural_Valid.f k (⟨#[]⟩:ByteArray)).bind fun t280=>(if t280 = true then (some false) else ((natural_Valid.f k (⟨#[48]⟩:ByteArray)).bind fun t281=>(some t281)))) = some r:=by rw [if_neg (show ¬ (false = true) by decide)] at H;exact H
            clear H
            have H:=H1
            clear H1
            replace H:=Option.bind_eq_some_iff.mp H
            obtain ⟨t280,A290,H⟩:=H
            replace H:(if t280 = true then (some false) else ((natural_Valid.f k (⟨#[48]⟩:ByteArray)).bind fun t281=>(some t281))) = some r:=H
            have A29:=Aside0.mk A290
            clear A290
            by_cases c30:t280 = true
            ·subst c30
             have H1:(some false) = some r:=by rw [if_pos rfl] at H;exact H
             clear H
             have H:=H1
             clear H1
             obtain rfl:=Option.some.inj H
             go_enter Tryd.func11,Tryd.ntmps11
             go_wp2_with (first|((with_reducible refine gate_callee (f:=17) rfl ?_);refine goesL_ (some 19) rfl rfl Tryd.func17 (by kernel_rfl) rfl #[.string (⟨#[49,48,48,48,48,48,48,48,48,48,48,48,48,48,48,48,48,48,48,48,48]⟩:ByteArray),.string (⟨#[49]⟩:ByteArray)] rfl (by (try simp only [List.map_toArray,List.map_cons,List.map_nil]);first|done|rfl|(simp only [List.length_drop,List.length_take];rfl)) ?_;(with_reducible refine (natural_Add.calls (⟨#[49,48,48,48,48,48,48,48,48,48,48,48,48,48,48,48,48,48,48,48,48]⟩:ByteArray) (⟨#[49]⟩:ByteArray) t262 t263 _ ?side1 A1.out).mono ?_);(case side1=>exact HLW.out.below (by repeat (first|(with_reducible first|exact HB.out|apply below_alloc|apply pw_below_drewN|apply below_drew1)|exact HB.out)));rintro e w31 ⟨rfl,hb⟩;refine ⟨_,rfl,?_⟩;have n0_:=Aside0.mk (below_step (by repeat (first|(with_reducible first|exact HB.out|apply below_alloc|apply pw_below_drewN|apply below_drew1)|exact HB.out)) hb);clear HB;have HB:=n0_;clear n0_;(try clear hb);(try clear hb2);(try clear hk);(try clear hi))|((with_reducible refine gate_callee (f:=23) rfl ?_);refine goesL_ (some 23) rfl rfl Tryd.func23 (by kernel_rfl) rfl #[.string (⟨#[49,48,48,48,48,48,48,48,48,55]⟩:ByteArray),.string (⟨#[49,48]⟩:ByteArray)] rfl (by (try simp only [List.map_toArray,List.map_cons,List.map_nil]);first|done|rfl|(simp only [List.length_drop,List.length_take];rfl)) ?_;(with_reducible refine (natural_DivMod.calls k (⟨#[49,48,48,48,48,48,48,48,48,55]⟩:ByteArray) (⟨#[49,48]⟩:ByteArray) t264 t265 t266 _ ?side1 A2.out).mono ?_);(case side1=>exact HLW.out.below (by repeat (first|(with_reducible first|exact HB.out|apply below_alloc|apply pw_below_drewN|apply below_drew1)|exact HB.out)));rintro e w32 ⟨rfl,hb⟩;refine ⟨_,rfl,?_⟩;have n0_:=Aside0.mk (below_step (by repeat (first|(with_reducible first|exact HB.out|apply below_alloc|apply pw_below_drewN|apply below_drew1)|exact HB.out)) hb);clear HB;have HB:=n0_;clear n0_;(try clear hb);(try clear hb2);(try clear hk);(try clear hi))|((with_reducible refine gate_callee (f:=25) rfl ?_);refine goesL_ (some 28) rfl rfl Tryd.func25 (by kernel_rfl) rfl #[.string (⟨#[56,52]⟩:ByteArray),.string (⟨#[51,54]⟩:ByteArray)] rfl (by (try simp only [List.map_toArray,List.map_cons,List.map_nil]);first|done|rfl|(simp only [List.length_drop,List.length_take];rfl)) ?_;(with_reducible refine (natural_GCD.calls (⟨#[56,52]⟩:ByteArray) (⟨#[51,54]⟩:ByteArray) t267 t268 _ ?side1 A3.out).mono ?_);(case side1=>exact HLW.out.below (by repeat (first|(with_reducible first|exact HB.out|apply below_alloc|apply pw_below_drewN|apply below_drew1)|exact HB.out)));rintro e w33 ⟨rfl,hb⟩;refine ⟨_,rfl,?_⟩;have n0_:=Aside0.mk (below_step (by repeat (first|(with_reducible first|exact HB.out|apply below_alloc|apply pw_below_drewN|apply below_drew1)|exact HB.out)) hb);clear HB;have HB:=n0_;clear n0_;(try clear hb);(try clear hb2);(try clear hk);(try clear hi))|((with_reducible refine gate_callee (f:=27) rfl ?_);refine goesL_ (some 32) rfl rfl Tryd.func27 (by kernel_rfl) rfl #[.string (⟨#[57,57]⟩:ByteArray)] rfl (by (try simp only [List.map_toArray,List.map_cons,List.map_nil]);first|done|rfl|(simp only [List.length_drop,List.length_take];rfl)) ?_;(with_reducible refine (natural_Root.calls k (⟨#[57,57]⟩:ByteArray) t269 t270 _ ?side1 A4.out).mono ?_);(case side1=>exact HLW.out.below (by repeat (first|(with_reducible first|exact HB.out|apply below_alloc|apply pw_below_drewN|apply below_drew1)|exact HB.out)));rintro e w34 ⟨rfl,hb⟩;refine ⟨_,rfl,?_⟩;have n0_:=Aside0.mk (below_step (by repeat (first|(with_reducible first|exact HB.out|apply below_alloc|apply pw_below_drewN|apply below_drew1)|exact HB.out)) hb);clear HB;have HB:=n0_;clear n0_;(try clear hb);(try clear hb2);(try clear hk);(try clear hi))|((with_reducible refine gate_callee (f:=29) rfl ?_);refine goesL_ (some 36) rfl rfl Tryd.func29 (by kernel_rfl) rfl #[.string (⟨#[49,48]⟩:ByteArray),.int .i64 20] rfl (by (try simp only [List.map_toArray,List.map_cons,List.map_nil]);first|done|rfl|(simp only [List.length_drop,List.length_take];rfl)) ?_;(with_reducible refine (natural_Pow.calls k (⟨#[49,48]⟩:ByteArray) 20 t271 t272 _ ?side1 A5.out).mono ?_);(case side1=>exact HLW.out.below (by repeat (first|(with_reducible first|exact HB.out|apply below_alloc|apply pw_below_drewN|apply below_drew1)|exact HB.out)));rintro e w35 ⟨rfl,hb⟩;refine ⟨_,rfl,?_⟩;have n0_:=Aside0.mk (below_step (by repeat (first|(with_reducible first|exact HB.out|apply below_alloc|apply pw_below_drewN|apply below_drew1)|exact HB.out)) hb);clear HB;have HB:=n0_;clear n0_;(try clear hb);(try clear hb2);(try clear hk);(try clear hi))|((with_reducible refine gate_callee (f:=21) rfl ?_);refine goesL_ (some 40) rfl rfl Tryd.func21 (by kernel_rfl) rfl #[.string (⟨#[57,57,57,57,57]⟩:ByteArray),.string (⟨#[57,57,57,57,57]⟩:ByteArray)] rfl (by (try simp only [List.map_toArray,List.map_cons,List.map_nil]);first|done|rfl|(simp only [List.length_drop,List.length_take];rfl)) ?_;(with_reducible refine (natural_Mul.calls (⟨#[57,57,57,57,57]⟩:ByteArray) (⟨#[57,57,57,57,57]⟩:ByteArray) t273 t274 _ ?side1 A6.out).mono ?_);(case side1=>exact HLW.out.below (by repeat (first|(with_reducible first|exact HB.out|apply below_alloc|apply pw_below_drewN|apply below_drew1)|exact HB.out)));rintro e w36 ⟨rfl,hb⟩;refine ⟨_,rfl,?_⟩;have n0_:=Aside0.mk (below_step (by repeat (first|(with_reducible first|exact HB.out|apply below_alloc|apply pw_below_drewN|apply below_drew1)|exact HB.out)) hb);clear HB;have HB:=n0_;clear n0_;(try clear hb);(try clear hb2);(try clear hk);(try clear hi))|((with_reducible refine gate_callee (f:=19) rfl ?_);refine goesL_ (some 44) rfl rfl Tryd.func19 (by kernel_rfl) rfl #[.string (⟨#[49,48,48,48]⟩:ByteArray),.string (⟨#[49]⟩:ByteArray)] rfl (by (try simp only [List.map_toArray,List.map_cons,List.map_nil]);first|done|rfl|(simp only [List.length_drop,List.length_take];rfl)) ?_;(with_reducible refine (natural_Sub.calls (⟨#[49,48,48,48]⟩:ByteArray) (⟨#[49]⟩:ByteArray) t275 t276 _ ?side1 A7.out).mono ?_);(case side1=>exact HLW.out.below (by repeat (first|(with_reducible first|exact HB.out|apply below_alloc|apply pw_below_drewN|apply below_drew1)|exact HB.out)));rintro e w37 ⟨rfl,hb⟩;refine ⟨_,rfl,?_⟩;have n0_:=Aside0.mk (below_step (by repeat (first|(with_reducible first|exact HB.out|apply below_alloc|apply pw_below_drewN|apply below_drew1)|exact HB.out)) hb);clear HB;have HB:=n0_;clear n0_;(try clear hb);(try clear hb2);(try clear hk);(try clear hi))|((with_reducible refine gate_callee (f:=13) rfl ?_);refine goesL_ (some 48) rfl rfl Tryd.func13 (by kernel_rfl) rfl #[.string (⟨#[49,48]⟩:ByteArray),.string (⟨#[57]⟩:ByteArray)] rfl (by (try simp only [List.map_toArray,List.map_cons,List.map_nil]);first|done|rfl|(simp only [List.length_drop,List.length_take];rfl)) ?_;(with_reducible refine (natural_Compare.calls k (⟨#[49,48]⟩:ByteArray) (⟨#[57]⟩:ByteArray) t277 t278 _ A8.out).mono ?_);rintro e w38 ⟨rfl,hb⟩;refine ⟨_,rfl,?_⟩;have n0_:=Aside0.mk (below_step (by repeat (first|(with_reducible first|exact HB.out|apply below_alloc|apply pw_below_drewN|apply below_drew1)|exact HB.out)) hb);clear HB;have HB:=n0_;clear n0_;(try clear hb);(try clear hb2);(try clear hk);(try clear hi))|(go_at_call 15;(with_reducible refine (natural_Valid.calls k (⟨#[48,48,55]⟩:ByteArray) false _ A19.out).mono ?_);rintro e w' ⟨rfl,⟨nd,rfl⟩⟩)|(go_at_call 15;(with_reducible refine (natural_Valid.calls k (⟨#[]⟩:ByteArray) true _ A29.out).mono ?_);rintro e w' ⟨rfl,⟨nd,rfl⟩⟩))
             go_ret
             exact ⟨by first|rfl|(simp [errW_none,errW_some]<;>rfl)|(simp [*,errW_none,errW_some]<;>rfl),by repeat (first|(with_reducible first|exact HB.out|apply below_alloc|apply pw_below_drewN|apply below_drew1)|exact HB.out)⟩
            ·replace c30:=Bool.eq_false_iff.mpr c30
             subst c30
             have H1:((natural_Valid.f k (⟨#[48]⟩:ByteArray)).bind fun t281=>(some t281)) = some r:=by rw [if_neg (show ¬ (false = true) by decide)] at H;exact H
             clear H
             have H:=H1
             clear H1
             replace H:=Option.bind_eq_some_iff.mp H
             obtain ⟨t281,A390,H⟩:=H
             replace H:(some t281) = some r:=H
             have A39:=Aside0.mk A390
             clear A390
             obtain rfl:=Option.some.inj H
             go_enter Tryd.func11,Tryd.ntmps11
             go_wp2_with (first|((with_reducible refine gate_callee (f:=17) rfl ?_);refine goesL_ (some 19) rfl rfl Tryd.func17 (by kernel_rfl) rfl #[.string (⟨#[49,48,48,48,48,48,48,48,48,48,48,48,48,48,48,48,48,48,48,48,48]⟩:ByteArray),.string (⟨#[49]⟩:ByteArray)] rfl (by (try simp only [List.map_toArray,List.map_cons,List.map_nil]);first|done|rfl|(simp only [List.length_drop,List.length_take];rfl)) ?_;(with_reducible refine (natural_Add.calls (⟨#[49,48,48,48,48,48,48,48,48,48,48,48,48,48,48,48,48,48,48,48,48]⟩:ByteArray) (⟨#[49]⟩:ByteArray) t262 t263 _ ?side1 A1.out).mono ?_);(case side1=>exact HLW.out.below (by repeat (first|(with_reducible first|exact HB.out|apply below_alloc|apply pw_below_drewN|apply below_drew1)|exact HB.out)));rintro e w40 ⟨rfl,hb⟩;refine ⟨_,rfl,?_⟩;have n0_:=Aside0.mk (below_step (by repeat (first|(with_reducible first|exact HB.out|apply below_alloc|apply pw_below_drewN|apply below_drew1)|exact HB.out)) hb);clear HB;have HB:=n0_;clear n0_;(try clear hb);(try clear hb2);(try clear hk);(try clear hi))|((with_reducible refine gate_callee (f:=23) rfl ?_);refine goesL_ (some 23) rfl rfl Tryd.func23 (by kernel_rfl) rfl #[.string (⟨#[49,48,48,48,48,48,48,48,48,55]⟩:ByteArray),.string (⟨#[49,48]⟩:ByteArray)] rfl (by (try simp only [List.map_toArray,List.map_cons,List.map_nil]);first|done|rfl|(simp only [List.length_drop,List.length_take];rfl)) ?_;(with_reducible refine (natural_DivMod.calls k (⟨#[49,48,48,48,48,48,48,48,48,55]⟩:ByteArray) (⟨#[49,48]⟩:ByteArray) t264 t265 t266 _ ?side1 A2.out).mono ?_);(case side1=>exact HLW.out.below (by repeat (first|(with_reducible first|exact HB.out|apply below_alloc|apply pw_below_drewN|apply below_drew1)|exact HB.out)));rintro e w41 ⟨rfl,hb⟩;refine ⟨_,rfl,?_⟩;have n0_:=Aside0.mk (below_step (by repeat (first|(with_reducible first|exact HB.out|apply below_alloc|apply pw_below_drewN|apply below_drew1)|exact HB.out)) hb);clear HB;have HB:=n0_;clear n0_;(try clear hb);(try clear hb2);(try clear hk);(try clear hi))|((with_reducible refine gate_callee (f:=25) rfl ?_);refine goesL_ (some 28) rfl rfl Tryd.func25 (by kernel_rfl) rfl #[.string (⟨#[56,52]⟩:ByteArray),.string (⟨#[51,54]⟩:ByteArray)] rfl (by (try simp only [List.map_toArray,List.map_cons,List.map_nil]);first|done|rfl|(simp only [List.length_drop,List.length_take];rfl)) ?_;(with_reducible refine (natural_GCD.calls (⟨#[56,52]⟩:ByteArray) (⟨#[51,54]⟩:ByteArray) t267 t268 _ ?side1 A3.out).mono ?_);(case side1=>exact HLW.out.below (by repeat (first|(with_reducible first|exact HB.out|apply below_alloc|apply pw_below_drewN|apply below_drew1)|exact HB.out)));rintro e w42 ⟨rfl,hb⟩;refine ⟨_,rfl,?_⟩;have n0_:=Aside0.mk (below_step (by repeat (first|(with_reducible first|exact HB.out|apply below_alloc|apply pw_below_drewN|apply below_drew1)|exact HB.out)) hb);clear HB;have HB:=n0_;clear n0_;(try clear hb);(try clear hb2);(try clear hk);(try clear hi))|((with_reducible refine gate_callee (f:=27) rfl ?_);refine goesL_ (some 32) rfl rfl Tryd.func27 (by kernel_rfl) rfl #[.string (⟨#[57,57]⟩:ByteArray)] rfl (by (try simp only [List.map_toArray,List.map_cons,List.map_nil]);first|done|rfl|(simp only [List.length_drop,List.length_take];rfl)) ?_;(with_reducible refine (natural_Root.calls k (⟨#[57,57]⟩:ByteArray) t269 t270 _ ?side1 A4.out).mono ?_);(case side1=>exact HLW.out.below (by repeat (first|(with_reducible first|exact HB.out|apply below_alloc|apply pw_below_drewN|apply below_drew1)|exact HB.out)));rintro e w43 ⟨rfl,hb⟩;refine ⟨_,rfl,?_⟩;have n0_:=Aside0.mk (below_step (by repeat (first|(with_reducible first|exact HB.out|apply below_alloc|apply pw_below_drewN|apply below_drew1)|exact HB.out)) hb);clear HB;have HB:=n0_;clear n0_;(try clear hb);(try clear hb2);(try clear hk);(try clear hi))|((with_reducible refine gate_callee (f:=29) rfl ?_);refine goesL_ (some 36) rfl rfl Tryd.func29 (by kernel_rfl) rfl #[.string (⟨#[49,48]⟩:ByteArray),.int .i64 20] rfl (by (try simp only [List.map_toArray,List.map_cons,List.map_nil]);first|done|rfl|(simp only [List.length_drop,List.length_take];rfl)) ?_;(with_reducible refine (natural_Pow.calls k (⟨#[49,48]⟩:ByteArray) 20 t271 t272 _ ?side1 A5.out).mono ?_);(case side1=>exact HLW.out.below (by repeat (first|(with_reducible first|exact HB.out|apply below_alloc|apply pw_below_drewN|apply below_drew1)|exact HB.out)));rintro e w44 ⟨rfl,hb⟩;refine ⟨_,rfl,?_⟩;have n0_:=Aside0.mk (below_step (by repeat (first|(with_reducible first|exact HB.out|apply below_alloc|apply pw_below_drewN|apply below_drew1)|exact HB.out)) hb);clear HB;have HB:=n0_;clear n0_;(try clear hb);(try clear hb2);(try clear hk);(try clear hi))|((with_reducible refine gate_callee (f:=21) rfl ?_);refine goesL_ (some 40) rfl rfl Tryd.func21 (by kernel_rfl) rfl #[.string (⟨#[57,57,57,57,57]⟩:ByteArray),.string (⟨#[57,57,57,57,57]⟩:ByteArray)] rfl (by (try simp only [List.map_toArray,List.map_cons,List.map_nil]);first|done|rfl|(simp only [List.length_drop,List.length_take];rfl)) ?_;(with_reducible refine (natural_Mul.calls (⟨#[57,57,57,57,57]⟩:ByteArray) (⟨#[57,57,57,57,57]⟩:ByteArray) t273 t274 _ ?side1 A6.out).mono ?_);(case side1=>exact HLW.out.below (by repeat (first|(with_reducible first|exact HB.out|apply below_alloc|apply pw_below_drewN|apply below_drew1)|exact HB.out)));rintro e w45 ⟨rfl,hb⟩;refine ⟨_,rfl,?_⟩;have n0_:=Aside0.mk (below_step (by repeat (first|(with_reducible first|exact HB.out|apply below_alloc|apply pw_below_drewN|apply below_drew1)|exact HB.out)) hb);clear HB;have HB:=n0_;clear n0_;(try clear hb);(try clear hb2);(try clear hk);(try clear hi))|((with_reducible refine gate_callee (f:=19) rfl ?_);refine goesL_ (some 44) rfl rfl Tryd.func19 (by kernel_rfl) rfl #[.string (⟨#[49,48,48,48]⟩:ByteArray),.string (⟨#[49]⟩:ByteArray)] rfl (by (try simp only [List.map_toArray,List.map_cons,List.map_nil]);first|done|rfl|(simp only [List.length_drop,List.length_take];rfl)) ?_;(with_reducible refine (natural_Sub.calls (⟨#[49,48,48,48]⟩:ByteArray) (⟨#[49]⟩:ByteArray) t275 t276 _ ?side1 A7.out).mono ?_);(case side1=>exact HLW.out.below (by repeat (first|(with_reducible first|exact HB.out|apply below_alloc|apply pw_below_drewN|apply below_drew1)|exact HB.out)));rintro e w46 ⟨rfl,hb⟩;refine ⟨_,rfl,?_⟩;have n0_:=Aside0.mk (below_step (by repeat (first|(with_reducible first|exact HB.out|apply below_alloc|apply pw_below_drewN|apply below_drew1)|exact HB.out)) hb);clear HB;have HB:=n0_;clear n0_;(try clear hb);(try clear hb2);(try clear hk);(try clear hi))|((with_reducible refine gate_callee (f:=13) rfl ?_);refine goesL_ (some 48) rfl rfl Tryd.func13 (by kernel_rfl) rfl #[.string (⟨#[49,48]⟩:ByteArray),.string (⟨#[57]⟩:ByteArray)] rfl (by (try simp only [List.map_toArray,List.map_cons,List.map_nil]);first|done|rfl|(simp only [List.length_drop,List.length_take];rfl)) ?_;(with_reducible refine (natural_Compare.calls k (⟨#[49,48]⟩:ByteArray) (⟨#[57]⟩:ByteArray) t277 t278 _ A8.out).mono ?_);rintro e w47 ⟨rfl,hb⟩;refine ⟨_,rfl,?_⟩;have n0_:=Aside0.mk (below_step (by repeat (first|(with_reducible first|exact HB.out|apply below_alloc|apply pw_below_drewN|apply below_drew1)|exact HB.out)) hb);clear HB;have HB:=n0_;clear n0_;(try clear hb);(try clear hb2);(try clear hk);(try clear hi))|(go_at_call 15;(with_reducible refine (natural_Valid.calls k (⟨#[48,48,55]⟩:ByteArray) false _ A19.out).mono ?_);rintro e w' ⟨rfl,⟨nd,rfl⟩⟩)|(go_at_call 15;(with_reducible refine (natural_Valid.calls k (⟨#[]⟩:ByteArray) false _ A29.out).mono ?_);rintro e w' ⟨rfl,⟨nd,rfl⟩⟩)|(go_at_call 15;(with_reducible refine (natural_Valid.calls k (⟨#[48]⟩:ByteArray) t281 _ A39.out).mono ?_);rintro e w' ⟨rfl,⟨nd,rfl⟩⟩))
             go_ret
             exact ⟨by first|rfl|(simp [errW_none,errW_some]<;>rfl)|(simp [*,errW_none,errW_some]<;>rfl),by repeat (first|(with_reducible first|exact HB.out|apply below_alloc|apply pw_below_drewN|apply below_drew1)|exact HB.out)⟩
          ·rw [if_neg c18] at H
           have c18b0:(t277 == 1) = false:=beq_eq_false_iff_ne.mpr c18
           have c18b1:(t277 != 1) = true:=bne_iff_ne.mpr c18
           obtain rfl:=Option.some.inj H
           go_enter Tryd.func11,Tryd.ntmps11
           go_wp2_with (first|((with_reducible refine gate_callee (f:=17) rfl ?_);refine goesL_ (some 19) rfl rfl Tryd.func17 (by kernel_rfl) rfl #[.string (⟨#[49,48,48,48,48,48,48,48,48,48,48,48,48,48,48,48,48,48,48,48,48]⟩:ByteArray),.string (⟨#[49]⟩:ByteArray)] rfl (by (try simp only [List.map_toArray,List.map_cons,List.map_nil]);first|done|rfl|(simp only [List.length_drop,List.length_take];rfl)) ?_;(with_reducible refine (natural_Add.calls (⟨#[49,48,48,48,48,48,48,48,48,48,48,48,48,48,48,48,48,48,48,48,48]⟩:ByteArray) (⟨#[49]⟩:ByteArray) t262 t263 _ ?side1 A1.out).mono ?_);(case side1=>exact HLW.out.below (by repeat (first|(with_reducible first|exact HB.out|apply below_alloc|apply pw_below_drewN|apply below_drew1)|exact HB.out)));rintro e w48 ⟨rfl,hb⟩;refine ⟨_,rfl,?_⟩;have n0_:=Aside0.mk (below_step (by repeat (first|(with_reducible first|exact HB.out|apply below_alloc|apply pw_below_drewN|apply below_drew1)|exact HB.out)) hb);clear HB;have HB:=n0_;clear n0_;(try clear hb);(try clear hb2);(try clear hk);(try clear hi))|((with_reducible refine gate_callee (f:=23) rfl ?_);refine goesL_ (some 23) rfl rfl Tryd.func23 (by kernel_rfl) rfl #[.string (⟨#[49,48,48,48,48,48,48,48,48,55]⟩:ByteArray),.string (⟨#[49,48]⟩:ByteArray)] rfl (by (try simp only [List.map_toArray,List.map_cons,List.map_nil]);first|done|rfl|(simp only [List.length_drop,List.length_take];rfl)) ?_;(with_reducible refine (natural_DivMod.calls k (⟨#[49,48,48,48,48,48,48,48,48,55]⟩:ByteArray) (⟨#[49,48]⟩:ByteArray) t264 t265 t266 _ ?side1 A2.out).mono ?_);(case side1=>exact HLW.out.below (by repeat (first|(with_reducible first|exact HB.out|apply below_alloc|apply pw_below_drewN|apply below_drew1)|exact HB.out)));rintro e w49 ⟨rfl,hb⟩;refine ⟨_,rfl,?_⟩;have n0_:=Aside0.mk (below_step (by repeat (first|(with_reducible first|exact HB.out|apply below_alloc|apply pw_below_drewN|apply below_drew1)|exact HB.out)) hb);clear HB;have HB:=n0_;clear n0_;(try clear hb);(try clear hb2);(try clear hk);(try clear hi))|((with_reducible refine gate_callee (f:=25) rfl ?_);refine goesL_ (some 28) rfl rfl Tryd.func25 (by kernel_rfl) rfl #[.string (⟨#[56,52]⟩:ByteArray),.string (⟨#[51,54]⟩:ByteArray)] rfl (by (try simp only [List.map_toArray,List.map_cons,List.map_nil]);first|done|rfl|(simp only [List.length_drop,List.length_take];rfl)) ?_;(with_reducible refine (natural_GCD.calls (⟨#[56,52]⟩:ByteArray) (⟨#[51,54]⟩:ByteArray) t267 t268 _ ?side1 A3.out).mono ?_);(case side1=>exact HLW.out.below (by repeat (first|(with_reducible first|exact HB.out|apply below_alloc|apply pw_below_drewN|apply below_drew1)|exact HB.out)));rintro e w50 ⟨rfl,hb⟩;refine ⟨_,rfl,?_⟩;have n0_:=Aside0.mk (below_step (by repeat (first|(with_reducible first|exact HB.out|apply below_alloc|apply pw_below_drewN|apply below_drew1)|exact HB.out)) hb);clear HB;have HB:=n0_;clear n0_;(try clear hb);(try clear hb2);(try clear hk);(try clear hi))|((with_reducible refine gate_callee (f:=27) rfl ?_);refine goesL_ (some 32) rfl rfl Tryd.func27 (by kernel_rfl) rfl #[.string (⟨#[57,57]⟩:ByteArray)] rfl (by (try simp only [List.map_toArray,List.map_cons,List.map_nil]);first|done|rfl|(simp only [List.length_drop,List.length_take];rfl)) ?_;(with_reducible refine (natural_Root.calls k (⟨#[57,57]⟩:ByteArray) t269 t270 _ ?side1 A4.out).mono ?_);(case side1=>exact HLW.out.below (by repeat (first|(with_reducible first|exact HB.out|apply below_alloc|apply pw_below_drewN|apply below_drew1)|exact HB.out)));rintro e w51 ⟨rfl,hb⟩;refine ⟨_,rfl,?_⟩;have n0_:=Aside0.mk (below_step (by repeat (first|(with_reducible first|exact HB.out|apply below_alloc|apply pw_below_drewN|apply below_drew1)|exact HB.out)) hb);clear HB;have HB:=n0_;clear n0_;(try clear hb);(try clear hb2);(try clear hk);(try clear hi))|((with_reducible refine gate_callee (f:=29) rfl ?_);refine goesL_ (some 36) rfl rfl Tryd.func29 (by kernel_rfl) rfl #[.string (⟨#[49,48]⟩:ByteArray),.int .i64 20] rfl (by (try simp only [List.map_toArray,List.map_cons,List.map_nil]);first|done|rfl|(simp only [List.length_drop,List.length_take];rfl)) ?_;(with_reducible refine (natural_Pow.calls k (⟨#[49,48]⟩:ByteArray) 20 t271 t272 _ ?side1 A5.out).mono ?_);(case side1=>exact HLW.out.below (by repeat (first|(with_reducible first|exact HB.out|apply below_alloc|apply pw_below_drewN|apply below_drew1)|exact HB.out)));rintro e w52 ⟨rfl,hb⟩;refine ⟨_,rfl,?_⟩;have n0_:=Aside0.mk (below_step (by repeat (first|(with_reducible first|exact HB.out|apply below_alloc|apply pw_below_drewN|apply below_drew1)|exact HB.out)) hb);clear HB;have HB:=n0_;clear n0_;(try clear hb);(try clear hb2);(try clear hk);(try clear hi))|((with_reducible refine gate_callee (f:=21) rfl ?_);refine goesL_ (some 40) rfl rfl Tryd.func21 (by kernel_rfl) rfl #[.string (⟨#[57,57,57,57,57]⟩:ByteArray),.string (⟨#[57,57,57,57,57]⟩:ByteArray)] rfl (by (try simp only [List.map_toArray,List.map_cons,List.map_nil]);first|done|rfl|(simp only [List.length_drop,List.length_take];rfl)) ?_;(with_reducible refine (natural_Mul.calls (⟨#[57,57,57,57,57]⟩:ByteArray) (⟨#[57,57,57,57,57]⟩:ByteArray) t273 t274 _ ?side1 A6.out).mono ?_);(case side1=>exact HLW.out.below (by repeat (first|(with_reducible first|exact HB.out|apply below_alloc|apply pw_below_drewN|apply below_drew1)|exact HB.out)));rintro e w53 ⟨rfl,hb⟩;refine ⟨_,rfl,?_⟩;have n0_:=Aside0.mk (below_step (by repeat (first|(with_reducible first|exact HB.out|apply below_alloc|apply pw_below_drewN|apply below_drew1)|exact HB.out)) hb);clear HB;have HB:=n0_;clear n0_;(try clear hb);(try clear hb2);(try clear hk);(try clear hi))|((with_reducible refine gate_callee (f:=19) rfl ?_);refine goesL_ (some 44) rfl rfl Tryd.func19 (by kernel_rfl) rfl #[.string (⟨#[49,48,48,48]⟩:ByteArray),.string (⟨#[49]⟩:ByteArray)] rfl (by (try simp only [List.map_toArray,List.map_cons,List.map_nil]);first|done|rfl|(simp only [List.length_drop,List.length_take];rfl)) ?_;(with_reducible refine (natural_Sub.calls (⟨#[49,48,48,48]⟩:ByteArray) (⟨#[49]⟩:ByteArray) t275 t276 _ ?side1 A7.out).mono ?_);(case side1=>exact HLW.out.below (by repeat (first|(with_reducible first|exact HB.out|apply below_alloc|apply pw_below_drewN|apply below_drew1)|exact HB.out)));rintro e w54 ⟨rfl,hb⟩;refine ⟨_,rfl,?_⟩;have n0_:=Aside0.mk (below_step (by repeat (first|(with_reducible first|exact HB.out|apply below_alloc|apply pw_below_drewN|apply below_drew1)|exact HB.out)) hb);clear HB;have HB:=n0_;clear n0_;(try clear hb);(try clear hb2);(try clear hk);(try clear hi))|((with_reducible refine gate_callee (f:=13) rfl ?_);refine goesL_ (some 48) rfl rfl Tryd.func13 (by kernel_rfl) rfl #[.string (⟨#[49,48]⟩:ByteArray),.string (⟨#[57]⟩:ByteArray)] rfl (by (try simp only [List.map_toArray,List.map_cons,List.map_nil]);first|done|rfl|(simp only [List.length_drop,List.length_take];rfl)) ?_;(with_reducible refine (natural_Compare.calls k (⟨#[49,48]⟩:ByteArray) (⟨#[57]⟩:ByteArray) t277 t278 _ A8.out).mono ?_);rintro e w55 ⟨rfl,hb⟩;refine ⟨_,rfl,?_⟩;have n0_:=Aside0.mk (below_step (by repeat (first|(with_reducible first|exact HB.out|apply below_alloc|apply pw_below_drewN|apply below_drew1)|exact HB.out)) hb);clear HB;have HB:=n0_;clear n0_;(try clear hb);(try clear hb2);(try clear hk);(try clear hi)))
           go_ret
           exact ⟨by first|rfl|(simp [errW_none,errW_some]<;>rfl)|(simp [*,errW_none,errW_some]<;>rfl),by repeat (first|(with_reducible first|exact HB.out|apply below_alloc|apply pw_below_drewN|apply below_drew1)|exact HB.out)⟩
         ·rw [if_neg c17] at H
          have c17b0:(t275.toList == ([57,57,57]:List UInt8)) = false:=beq_eq_false_iff_ne.mpr c17
          have c17b1:(t275.toList != ([57,57,57]:List UInt8)) = true:=bne_iff_ne.mpr c17
          obtain rfl:=Option.some.inj H
          go_enter Tryd.func11,Tryd.ntmps11
          go_wp2_with (first|((with_reducible refine gate_callee (f:=17) rfl ?_);refine goesL_ (some 19) rfl rfl Tryd.func17 (by kernel_rfl) rfl #[.string (⟨#[49,48,48,48,48,48,48,48,48,48,48,48,48,48,48,48,48,48,48,48,48]⟩:ByteArray),.string (⟨#[49]⟩:ByteArray)] rfl (by (try simp only [List.map_toArray,List.map_cons,List.map_nil]);first|done|rfl|(simp only [List.length_drop,List.length_take];rfl)) ?_;(with_reducible refine (natural_Add.calls (⟨#[49,48,48,48,48,48,48,48,48,48,48,48,48,48,48,48,48,48,48,48,48]⟩:ByteArray) (⟨#[49]⟩:ByteArray) t262 t263 _ ?side1 A1.out).mono ?_);(case side1=>exact HLW.out.below (by repeat (first|(with_reducible first|exact HB.out|apply below_alloc|apply pw_below_drewN|apply below_drew1)|exact HB.out)));rintro e w56 ⟨rfl,hb⟩;refine ⟨_,rfl,?_⟩;have n0_:=Aside0.mk (below_step (by repeat (first|(with_reducible first|exact HB.out|apply below_alloc|apply pw_below_drewN|apply below_drew1)|exact HB.out)) hb);clear HB;have HB:=n0_;clear n0_;(try clear hb);(try clear hb2);(try clear hk);(try clear hi))|((with_reducible refine gate_callee (f:=23) rfl ?_);refine goesL_ (some 23) rfl rfl Tryd.func23 (by kernel_rfl) rfl #[.string (⟨#[49,48,48,48,48,48,48,48,48,55]⟩:ByteArray),.string (⟨#[49,48]⟩:ByteArray)] rfl (by (try simp only [List.map_toArray,List.map_cons,List.map_nil]);first|done|rfl|(simp only [List.length_drop,List.length_take];rfl)) ?_;(with_reducible refine (natural_DivMod.calls k (⟨#[49,48,48,48,48,48,48,48,48,55]⟩:ByteArray) (⟨#[49,48]⟩:ByteArray) t264 t265 t266 _ ?side1 A2.out).mono ?_);(case side1=>exact HLW.out.below (by repeat (first|(with_reducible first|exact HB.out|apply below_alloc|apply pw_below_drewN|apply below_drew1)|exact HB.out)));rintro e w57 ⟨rfl,hb⟩;refine ⟨_,rfl,?_⟩;have n0_:=Aside0.mk (below_step (by repeat (first|(with_reducible first|exact HB.out|apply below_alloc|apply pw_below_drewN|apply below_drew1)|exact HB.out)) hb);clear HB;have HB:=n0_;clear n0_;(try clear hb);(try clear hb2);(try clear hk);(try clear hi))|((with_reducible refine gate_callee (f:=25) rfl ?_);refine goesL_ (some 28) rfl rfl Tryd.func25 (by kernel_rfl) rfl #[.string (⟨#[56,52]⟩:ByteArray),.string (⟨#[51,54]⟩:ByteArray)] rfl (by (try simp only [List.map_toArray,List.map_cons,List.map_nil]);first|done|rfl|(simp only [List.length_drop,List.length_take];rfl)) ?_;(with_reducible refine (natural_GCD.calls (⟨#[56,52]⟩:ByteArray) (⟨#[51,54]⟩:ByteArray) t267 t268 _ ?side1 A3.out).mono ?_);(case side1=>exact HLW.out.below (by repeat (first|(with_reducible first|exact HB.out|apply below_alloc|apply pw_below_drewN|apply below_drew1)|exact HB.out)));rintro e w58 ⟨rfl,hb⟩;refine ⟨_,rfl,?_⟩;have n0_:=Aside0.mk (below_step (by repeat (first|(with_reducible first|exact HB.out|apply below_alloc|apply pw_below_drewN|apply below_drew1)|exact HB.out)) hb);clear HB;have HB:=n0_;clear n0_;(try clear hb);(try clear hb2);(try clear hk);(try clear hi))|((with_reducible refine gate_callee (f:=27) rfl ?_);refine goesL_ (some 32) rfl rfl Tryd.func27 (by kernel_rfl) rfl #[.string (⟨#[57,57]⟩:ByteArray)] rfl (by (try simp only [List.map_toArray,List.map_cons,List.map_nil]);first|done|rfl|(simp only [List.length_drop,List.length_take];rfl)) ?_;(with_reducible refine (natural_Root.calls k (⟨#[57,57]⟩:ByteArray) t269 t270 _ ?side1 A4.out).mono ?_);(case side1=>exact HLW.out.below (by repeat (first|(with_reducible first|exact HB.out|apply below_alloc|apply pw_below_drewN|apply below_drew1)|exact HB.out)));rintro e w59 ⟨rfl,hb⟩;refine ⟨_,rfl,?_⟩;have n0_:=Aside0.mk (below_step (by repeat (first|(with_reducible first|exact HB.out|apply below_alloc|apply pw_below_drewN|apply below_drew1)|exact HB.out)) hb);clear HB;have HB:=n0_;clear n0_;(try clear hb);(try clear hb2);(try clear hk);(try clear hi))|((with_reducible refine gate_callee (f:=29) rfl ?_);refine goesL_ (some 36) rfl rfl Tryd.func29 (by kernel_rfl) rfl #[.string (⟨#[49,48]⟩:ByteArray),.int .i64 20] rfl (by (try simp only [List.map_toArray,List.map_cons,List.map_nil]);first|done|rfl|(simp only [List.length_drop,List.length_take];rfl)) ?_;(with_reducible refine (natural_Pow.calls k (⟨#[49,48]⟩:ByteArray) 20 t271 t272 _ ?side1 A5.out).mono ?_);(case side1=>exact HLW.out.below (by repeat (first|(with_reducible first|exact HB.out|apply below_alloc|apply pw_below_drewN|apply below_drew1)|exact HB.out)));rintro e w60 ⟨rfl,hb⟩;refine ⟨_,rfl,?_⟩;have n0_:=Aside0.mk (below_step (by repeat (first|(with_reducible first|exact HB.out|apply below_alloc|apply pw_below_drewN|apply below_drew1)|exact HB.out)) hb);clear HB;have HB:=n0_;clear n0_;(try clear hb);(try clear hb2);(try clear hk);(try clear hi))|((with_reducible refine gate_callee (f:=21) rfl ?_);refine goesL_ (some 40) rfl rfl Tryd.func21 (by kernel_rfl) rfl #[.string (⟨#[57,57,57,57,57]⟩:ByteArray),.string (⟨#[57,57,57,57,57]⟩:ByteArray)] rfl (by (try simp only [List.map_toArray,List.map_cons,List.map_nil]);first|done|rfl|(simp only [List.length_drop,List.length_take];rfl)) ?_;(with_reducible refine (natural_Mul.calls (⟨#[57,57,57,57,57]⟩:ByteArray) (⟨#[57,57,57,57,57]⟩:ByteArray) t273 t274 _ ?side1 A6.out).mono ?_);(case side1=>exact HLW.out.below (by repeat (first|(with_reducible first|exact HB.out|apply below_alloc|apply pw_below_drewN|apply below_drew1)|exact HB.out)));rintro e w61 ⟨rfl,hb⟩;refine ⟨_,rfl,?_⟩;have n0_:=Aside0.mk (below_step (by repeat (first|(with_reducible first|exact HB.out|apply below_alloc|apply pw_below_drewN|apply below_drew1)|exact HB.out)) hb);clear HB;have HB:=n0_;clear n0_;(try clear hb);(try clear hb2);(try clear hk);(try clear hi))|((with_reducible refine gate_callee (f:=19) rfl ?_);refine goesL_ (some 44) rfl rfl Tryd.func19 (by kernel_rfl) rfl #[.string (⟨#[49,48,48,48]⟩:ByteArray),.string (⟨#[49]⟩:ByteArray)] rfl (by (try simp only [List.map_toArray,List.map_cons,List.map_nil]);first|done|rfl|(simp only [List.length_drop,List.length_take];rfl)) ?_;(with_reducible refine (natural_Sub.calls (⟨#[49,48,48,48]⟩:ByteArray) (⟨#[49]⟩:ByteArray) t275 t276 _ ?side1 A7.out).mono ?_);(case side1=>exact HLW.out.below (by repeat (first|(with_reducible first|exact HB.out|apply below_alloc|apply pw_below_drewN|apply below_drew1)|exact HB.out)));rintro e w62 ⟨rfl,hb⟩;refine ⟨_,rfl,?_⟩;have n0_:=Aside0.mk (below_step (by repeat (first|(with_reducible first|exact HB.out|apply below_alloc|apply pw_below_drewN|apply below_drew1)|exact HB.out)) hb);clear HB;have HB:=n0_;clear n0_;(try clear hb);(try clear hb2);(try clear hk);(try clear hi))|((with_reducible refine gate_callee (f:=13) rfl ?_);refine goesL_ (some 48) rfl rfl Tryd.func13 (by kernel_rfl) rfl #[.string (⟨#[49,48]⟩:ByteArray),.string (⟨#[57]⟩:ByteArray)] rfl (by (try simp only [List.map_toArray,List.map_cons,List.map_nil]);first|done|rfl|(simp only [List.length_drop,List.length_take];rfl)) ?_;(with_reducible refine (natural_Compare.calls k (⟨#[49,48]⟩:ByteArray) (⟨#[57]⟩:ByteArray) t277 t278 _ A8.out).mono ?_);rintro e w63 ⟨rfl,hb⟩;refine ⟨_,rfl,?_⟩;have n0_:=Aside0.mk (below_step (by repeat (first|(with_reducible first|exact HB.out|apply below_alloc|apply pw_below_drewN|apply below_drew1)|exact HB.out)) hb);clear HB;have HB:=n0_;clear n0_;(try clear hb);(try clear hb2);(try clear hk);(try clear hi)))
          go_ret
          exact ⟨by first|rfl|(simp [errW_none,errW_some]<;>rfl)|(simp [*,errW_none,errW_some]<;>rfl),by repeat (first|(with_reducible first|exact HB.out|apply below_alloc|apply pw_below_drewN|apply below_drew1)|exact HB.out)⟩
        ·rw [if_neg c16] at H
         have c16b0:(t273.toList == ([57,57,57,57,56,48,48,48,48,49]:List UInt8)) = false:=beq_eq_false_iff_ne.mpr c16
         have c16b1:(t273.toList != ([57,57,57,57,56,48,48,48,48,49]:List UInt8)) = true:=bne_iff_ne.mpr c16
         obtain rfl:=Option.some.inj H
         go_enter Tryd.func11,Tryd.ntmps11
         go_wp2_with (first|((with_reducible refine gate_callee (f:=17) rfl ?_);refine goesL_ (some 19) rfl rfl Tryd.func17 (by kernel_rfl) rfl #[.string (⟨#[49,48,48,48,48,48,48,48,48,48,48,48,48,48,48,48,48,48,48,48,48]⟩:ByteArray),.string (⟨#[49]⟩:ByteArray)] rfl (by (try simp only [List.map_toArray,List.map_cons,List.map_nil]);first|done|rfl|(simp only [List.length_drop,List.length_take];rfl)) ?_;(with_reducible refine (natural_Add.calls (⟨#[49,48,48,48,48,48,48,48,48,48,48,48,48,48,48,48,48,48,48,48,48]⟩:ByteArray) (⟨#[49]⟩:ByteArray) t262 t263 _ ?side1 A1.out).mono ?_);(case side1=>exact HLW.out.below (by repeat (first|(with_reducible first|exact HB.out|apply below_alloc|apply pw_below_drewN|apply below_drew1)|exact HB.out)));rintro e w64 ⟨rfl,hb⟩;refine ⟨_,rfl,?_⟩;have n0_:=Aside0.mk (below_step (by repeat (first|(with_reducible first|exact HB.out|apply below_alloc|apply pw_below_drewN|apply below_drew1)|exact HB.out)) hb);clear HB;have HB:=n0_;clear n0_;(try clear hb);(try clear hb2);(try clear hk);(try clear hi))|((with_reducible refine gate_callee (f:=23) rfl ?_);refine goesL_ (some 23) rfl rfl Tryd.func23 (by kernel_rfl) rfl #[.string (⟨#[49,48,48,48,48,48,48,48,48,55]⟩:ByteArray),.string (⟨#[49,48]⟩:ByteArray)] rfl (by (try simp only [List.map_toArray,List.map_cons,List.map_nil]);first|done|rfl|(simp only [List.length_drop,List.length_take];rfl)) ?_;(with_reducible refine (natural_DivMod.calls k (⟨#[49,48,48,48,48,48,48,48,48,55]⟩:ByteArray) (⟨#[49,48]⟩:ByteArray) t264 t265 t266 _ ?side1 A2.out).mono ?_);(case side1=>exact HLW.out.below (by repeat (first|(with_reducible first|exact HB.out|apply below_alloc|apply pw_below_drewN|apply below_drew1)|exact HB.out)));rintro e w65 ⟨rfl,hb⟩;refine ⟨_,rfl,?_⟩;have n0_:=Aside0.mk (below_step (by repeat (first|(with_reducible first|exact HB.out|apply below_alloc|apply pw_below_drewN|apply below_drew1)|exact HB.out)) hb);clear HB;have HB:=n0_;clear n0_;(try clear hb);(try clear hb2);(try clear hk);(try clear hi))|((with_reducible refine gate_callee (f:=25) rfl ?_);refine goesL_ (some 28) rfl rfl Tryd.func25 (by kernel_rfl) rfl #[.string (⟨#[56,52]⟩:ByteArray),.string (⟨#[51,54]⟩:ByteArray)] rfl (by (try simp only [List.map_toArray,List.map_cons,List.map_nil]);first|done|rfl|(simp only [List.length_drop,List.length_take];rfl)) ?_;(with_reducible refine (natural_GCD.calls (⟨#[56,52]⟩:ByteArray) (⟨#[51,54]⟩:ByteArray) t267 t268 _ ?side1 A3.out).mono ?_);(case side1=>exact HLW.out.below (by repeat (first|(with_reducible first|exact HB.out|apply below_alloc|apply pw_below_drewN|apply below_drew1)|exact HB.out)));rintro e w66 ⟨rfl,hb⟩;refine ⟨_,rfl,?_⟩;have n0_:=Aside0.mk (below_step (by repeat (first|(with_reducible first|exact HB.out|apply below_alloc|apply pw_below_drewN|apply below_drew1)|exact HB.out)) hb);clear HB;have HB:=n0_;clear n0_;(try clear hb);(try clear hb2);(try clear hk);(try clear hi))|((with_reducible refine gate_callee (f:=27) rfl ?_);refine goesL_ (some 32) rfl rfl Tryd.func27 (by kernel_rfl) rfl #[.string (⟨#[57,57]⟩:ByteArray)] rfl (by (try simp only [List.map_toArray,List.map_cons,List.map_nil]);first|done|rfl|(simp only [List.length_drop,List.length_take];rfl)) ?_;(with_reducible refine (natural_Root.calls k (⟨#[57,57]⟩:ByteArray) t269 t270 _ ?side1 A4.out).mono ?_);(case side1=>exact HLW.out.below (by repeat (first|(with_reducible first|exact HB.out|apply below_alloc|apply pw_below_drewN|apply below_drew1)|exact HB.out)));rintro e w67 ⟨rfl,hb⟩;refine ⟨_,rfl,?_⟩;have n0_:=Aside0.mk (below_step (by repeat (first|(with_reducible first|exact HB.out|apply below_alloc|apply pw_below_drewN|apply below_drew1)|exact HB.out)) hb);clear HB;have HB:=n0_;clear n0_;(try clear hb);(try clear hb2);(try clear hk);(try clear hi))|((with_reducible refine gate_callee (f:=29) rfl ?_);refine goesL_ (some 36) rfl rfl Tryd.func29 (by kernel_rfl) rfl #[.string (⟨#[49,48]⟩:ByteArray),.int .i64 20] rfl (by (try simp only [List.map_toArray,List.map_cons,List.map_nil]);first|done|rfl|(simp only [List.length_drop,List.length_take];rfl)) ?_;(with_reducible refine (natural_Pow.calls k (⟨#[49,48]⟩:ByteArray) 20 t271 t272 _ ?side1 A5.out).mono ?_);(case side1=>exact HLW.out.below (by repeat (first|(with_reducible first|exact HB.out|apply below_alloc|apply pw_below_drewN|apply below_drew1)|exact HB.out)));rintro e w68 ⟨rfl,hb⟩;refine ⟨_,rfl,?_⟩;have n0_:=Aside0.mk (below_step (by repeat (first|(with_reducible first|exact HB.out|apply below_alloc|apply pw_below_drewN|apply below_drew1)|exact HB.out)) hb);clear HB;have HB:=n0_;clear n0_;(try clear hb);(try clear hb2);(try clear hk);(try clear hi))|((with_reducible refine gate_callee (f:=21) rfl ?_);refine goesL_ (some 40) rfl rfl Tryd.func21 (by kernel_rfl) rfl #[.string (⟨#[57,57,57,57,57]⟩:ByteArray),.string (⟨#[57,57,57,57,57]⟩:ByteArray)] rfl (by (try simp only [List.map_toArray,List.map_cons,List.map_nil]);first|done|rfl|(simp only [List.length_drop,List.length_take];rfl)) ?_;(with_reducible refine (natural_Mul.calls (⟨#[57,57,57,57,57]⟩:ByteArray) (⟨#[57,57,57,57,57]⟩:ByteArray) t273 t274 _ ?side1 A6.out).mono ?_);(case side1=>exact HLW.out.below (by repeat (first|(with_reducible first|exact HB.out|apply below_alloc|apply pw_below_drewN|apply below_drew1)|exact HB.out)));rintro e w69 ⟨rfl,hb⟩;refine ⟨_,rfl,?_⟩;have n0_:=Aside0.mk (below_step (by repeat (first|(with_reducible first|exact HB.out|apply below_alloc|apply pw_below_drewN|apply below_drew1)|exact HB.out)) hb);clear HB;have HB:=n0_;clear n0_;(try clear hb);(try clear hb2);(try clear hk);(try clear hi))|((with_reducible refine gate_callee (f:=19) rfl ?_);refine goesL_ (some 44) rfl rfl Tryd.func19 (by kernel_rfl) rfl #[.string (⟨#[49,48,48,48]⟩:ByteArray),.string (⟨#[49]⟩:ByteArray)] rfl (by (try simp only [List.map_toArray,List.map_cons,List.map_nil]);first|done|rfl|(simp only [List.length_drop,List.length_take];rfl)) ?_;(with_reducible refine (natural_Sub.calls (⟨#[49,48,48,48]⟩:ByteArray) (⟨#[49]⟩:ByteArray) t275 t276 _ ?side1 A7.out).mono ?_);(case side1=>exact HLW.out.below (by repeat (first|(with_reducible first|exact HB.out|apply below_alloc|apply pw_below_drewN|apply below_drew1)|exact HB.out)));rintro e w70 ⟨rfl,hb⟩;refine ⟨_,rfl,?_⟩;have n0_:=Aside0.mk (below_step (by repeat (first|(with_reducible first|exact HB.out|apply below_alloc|apply pw_below_drewN|apply below_drew1)|exact HB.out)) hb);clear HB;have HB:=n0_;clear n0_;(try clear hb);(try clear hb2);(try clear hk);(try clear hi))|((with_reducible refine gate_callee (f:=13) rfl ?_);refine goesL_ (some 48) rfl rfl Tryd.func13 (by kernel_rfl) rfl #[.string (⟨#[49,48]⟩:ByteArray),.string (⟨#[57]⟩:ByteArray)] rfl (by (try simp only [List.map_toArray,List.map_cons,List.map_nil]);first|done|rfl|(simp only [List.length_drop,List.length_take];rfl)) ?_;(with_reducible refine (natural_Compare.calls k (⟨#[49,48]⟩:ByteArray) (⟨#[57]⟩:ByteArray) t277 t278 _ A8.out).mono ?_);rintro e w71 ⟨rfl,hb⟩;refine ⟨_,rfl,?_⟩;have n0_:=Aside0.mk (below_step (by repeat (first|(with_reducible first|exact HB.out|apply below_alloc|apply pw_below_drewN|apply below_drew1)|exact HB.out)) hb);clear HB;have HB:=n0_;clear n0_;(try clear hb);(try clear hb2);(try clear hk);(try clear hi)))
         go_ret
         exact ⟨by first|rfl|(simp [errW_none,errW_some]<;>rfl)|(simp [*,errW_none,errW_some]<;>rfl),by repeat (first|(with_reducible first|exact HB.out|apply below_alloc|apply pw_below_drewN|apply below_drew1)|exact HB.out)⟩
       ·rw [if_neg c15] at H
        have c15b0:(t271.toList == ([49,48,48,48,48,48,48,48,48,48,48,48,48,48,48,48,48,48,48,48,48]:List UInt8)) = false:=beq_eq_false_iff_ne.mpr c15
        have c15b1:(t271.toList != ([49,48,48,48,48,48,48,48,48,48,48,48,48,48,48,48,48,48,48,48,48]:List UInt8)) = true:=bne_iff_ne.mpr c15
        obtain rfl:=Option.some.inj H
        go_enter Tryd.func11,Tryd.ntmps11
        go_wp2_with (first|((with_reducible refine gate_callee (f:=17) rfl ?_);refine goesL_ (some 19) rfl rfl Tryd.func17 (by kernel_rfl) rfl #[.string (⟨#[49,48,48,48,48,48,48,48,48,48,48,48,48,48,48,48,48,48,48,48,48]⟩:ByteArray),.string (⟨#[49]⟩:ByteArray)] rfl (by (try simp only [List.map_toArray,List.map_cons,List.map_nil]);first|done|rfl|(simp only [List.length_drop,List.length_take];rfl)) ?_;(with_reducible refine (natural_Add.calls (⟨#[49,48,48,48,48,48,48,48,48,48,48,48,48,48,48,48,48,48,48,48,48]⟩:ByteArray) (⟨#[49]⟩:ByteArray) t262 t263 _ ?side1 A1.out).mono ?_);(case side1=>exact HLW.out.below (by repeat (first|(with_reducible first|exact HB.out|apply below_alloc|apply pw_below_drewN|apply below_drew1)|exact HB.out)));rintro e w72 ⟨rfl,hb⟩;refine ⟨_,rfl,?_⟩;have n0_:=Aside0.mk (below_step (by repeat (first|(with_reducible first|exact HB.out|apply below_alloc|apply pw_below_drewN|apply below_drew1)|exact HB.out)) hb);clear HB;have HB:=n0_;clear n0_;(try clear hb);(try clear hb2);(try clear hk);(try clear hi))|((with_reducible refine gate_callee (f:=23) rfl ?_);refine goesL_ (some 23) rfl rfl Tryd.func23 (by kernel_rfl) rfl #[.string (⟨#[49,48,48,48,48,48,48,48,48,55]⟩:ByteArray),.string (⟨#[49,48]⟩:ByteArray)] rfl (by (try simp only [List.map_toArray,List.map_cons,List.map_nil]);first|done|rfl|(simp only [List.length_drop,List.length_take];rfl)) ?_;(with_reducible refine (natural_DivMod.calls k (⟨#[49,48,48,48,48,48,48,48,48,55]⟩:ByteArray) (⟨#[49,48]⟩:ByteArray) t264 t265 t266 _ ?side1 A2.out).mono ?_);(case side1=>exact HLW.out.below (by repeat (first|(with_reducible first|exact HB.out|apply below_alloc|apply pw_below_drewN|apply below_drew1)|exact HB.out)));rintro e w73 ⟨rfl,hb⟩;refine ⟨_,rfl,?_⟩;have n0_:=Aside0.mk (below_step (by repeat (first|(with_reducible first|exact HB.out|apply below_alloc|apply pw_below_drewN|apply below_drew1)|exact HB.out)) hb);clear HB;have HB:=n0_;clear n0_;(try clear hb);(try clear hb2);(try clear hk);(try clear hi))|((with_reducible refine gate_callee (f:=25) rfl ?_);refine goesL_ (some 28) rfl rfl Tryd.func25 (by kernel_rfl) rfl #[.string (⟨#[56,52]⟩:ByteArray),.string (⟨#[51,54]⟩:ByteArray)] rfl (by (try simp only [List.map_toArray,List.map_cons,List.map_nil]);first|done|rfl|(simp only [List.length_drop,List.length_take];rfl)) ?_;(with_reducible refine (natural_GCD.calls (⟨#[56,52]⟩:ByteArray) (⟨#[51,54]⟩:ByteArray) t267 t268 _ ?side1 A3.out).mono ?_);(case side1=>exact HLW.out.below (by repeat (first|(with_reducible first|exact HB.out|apply below_alloc|apply pw_below_drewN|apply below_drew1)|exact HB.out)));rintro e w74 ⟨rfl,hb⟩;refine ⟨_,rfl,?_⟩;have n0_:=Aside0.mk (below_step (by repeat (first|(with_reducible first|exact HB.out|apply below_alloc|apply pw_below_drewN|apply below_drew1)|exact HB.out)) hb);clear HB;have HB:=n0_;clear n0_;(try clear hb);(try clear hb2);(try clear hk);(try clear hi))|((with_reducible refine gate_callee (f:=27) rfl ?_);refine goesL_ (some 32) rfl rfl Tryd.func27 (by kernel_rfl) rfl #[.string (⟨#[57,57]⟩:ByteArray)] rfl (by (try simp only [List.map_toArray,List.map_cons,List.map_nil]);first|done|rfl|(simp only [List.length_drop,List.length_take];rfl)) ?_;(with_reducible refine (natural_Root.calls k (⟨#[57,57]⟩:ByteArray) t269 t270 _ ?side1 A4.out).mono ?_);(case side1=>exact HLW.out.below (by repeat (first|(with_reducible first|exact HB.out|apply below_alloc|apply pw_below_drewN|apply below_drew1)|exact HB.out)));rintro e w75 ⟨rfl,hb⟩;refine ⟨_,rfl,?_⟩;have n0_:=Aside0.mk (below_step (by repeat (first|(with_reducible first|exact HB.out|apply below_alloc|apply pw_below_drewN|apply below_drew1)|exact HB.out)) hb);clear HB;have HB:=n0_;clear n0_;(try clear hb);(try clear hb2);(try clear hk);(try clear hi))|((with_reducible refine gate_callee (f:=29) rfl ?_);refine goesL_ (some 36) rfl rfl Tryd.func29 (by kernel_rfl) rfl #[.string (⟨#[49,48]⟩:ByteArray),.int .i64 20] rfl (by (try simp only [List.map_toArray,List.map_cons,List.map_nil]);first|done|rfl|(simp only [List.length_drop,List.length_take];rfl)) ?_;(with_reducible refine (natural_Pow.calls k (⟨#[49,48]⟩:ByteArray) 20 t271 t272 _ ?side1 A5.out).mono ?_);(case side1=>exact HLW.out.below (by repeat (first|(with_reducible first|exact HB.out|apply below_alloc|apply pw_below_drewN|apply below_drew1)|exact HB.out)));rintro e w76 ⟨rfl,hb⟩;refine ⟨_,rfl,?_⟩;have n0_:=Aside0.mk (below_step (by repeat (first|(with_reducible first|exact HB.out|apply below_alloc|apply pw_below_drewN|apply below_drew1)|exact HB.out)) hb);clear HB;have HB:=n0_;clear n0_;(try clear hb);(try clear hb2);(try clear hk);(try clear hi))|((with_reducible refine gate_callee (f:=21) rfl ?_);refine goesL_ (some 40) rfl rfl Tryd.func21 (by kernel_rfl) rfl #[.string (⟨#[57,57,57,57,57]⟩:ByteArray),.string (⟨#[57,57,57,57,57]⟩:ByteArray)] rfl (by (try simp only [List.map_toArray,List.map_cons,List.map_nil]);first|done|rfl|(simp only [List.length_drop,List.length_take];rfl)) ?_;(with_reducible refine (natural_Mul.calls (⟨#[57,57,57,57,57]⟩:ByteArray) (⟨#[57,57,57,57,57]⟩:ByteArray) t273 t274 _ ?side1 A6.out).mono ?_);(case side1=>exact HLW.out.below (by repeat (first|(with_reducible first|exact HB.out|apply below_alloc|apply pw_below_drewN|apply below_drew1)|exact HB.out)));rintro e w77 ⟨rfl,hb⟩;refine ⟨_,rfl,?_⟩;have n0_:=Aside0.mk (below_step (by repeat (first|(with_reducible first|exact HB.out|apply below_alloc|apply pw_below_drewN|apply below_drew1)|exact HB.out)) hb);clear HB;have HB:=n0_;clear n0_;(try clear hb);(try clear hb2);(try clear hk);(try clear hi))|((with_reducible refine gate_callee (f:=19) rfl ?_);refine goesL_ (some 44) rfl rfl Tryd.func19 (by kernel_rfl) rfl #[.string (⟨#[49,48,48,48]⟩:ByteArray),.string (⟨#[49]⟩:ByteArray)] rfl (by (try simp only [List.map_toArray,List.map_cons,List.map_nil]);first|done|rfl|(simp only [List.length_drop,List.length_take];rfl)) ?_;(with_reducible refine (natural_Sub.calls (⟨#[49,48,48,48]⟩:ByteArray) (⟨#[49]⟩:ByteArray) t275 t276 _ ?side1 A7.out).mono ?_);(case side1=>exact HLW.out.below (by repeat (first|(with_reducible first|exact HB.out|apply below_alloc|apply pw_below_drewN|apply below_drew1)|exact HB.out)));rintro e w78 ⟨rfl,hb⟩;refine ⟨_,rfl,?_⟩;have n0_:=Aside0.mk (below_step (by repeat (first|(with_reducible first|exact HB.out|apply below_alloc|apply pw_below_drewN|apply below_drew1)|exact HB.out)) hb);clear HB;have HB:=n0_;clear n0_;(try clear hb);(try clear hb2);(try clear hk);(try clear hi))|((with_reducible refine gate_callee (f:=13) rfl ?_);refine goesL_ (some 48) rfl rfl Tryd.func13 (by kernel_rfl) rfl #[.string (⟨#[49,48]⟩:ByteArray),.string (⟨#[57]⟩:ByteArray)] rfl (by (try simp only [List.map_toArray,List.map_cons,List.map_nil]);first|done|rfl|(simp only [List.length_drop,List.length_take];rfl)) ?_;(with_reducible refine (natural_Compare.calls k (⟨#[49,48]⟩:ByteArray) (⟨#[57]⟩:ByteArray) t277 t278 _ A8.out).mono ?_);rintro e w79 ⟨rfl,hb⟩;refine ⟨_,rfl,?_⟩;have n0_:=Aside0.mk (below_step (by repeat (first|(with_reducible first|exact HB.out|apply below_alloc|apply pw_below_drewN|apply below_drew1)|exact HB.out)) hb);clear HB;have HB:=n0_;clear n0_;(try clear hb);(try clear hb2);(try clear hk);(try clear hi)))
        go_ret
        exact ⟨by first|rfl|(simp [errW_none,errW_some]<;>rfl)|(simp [*,errW_none,errW_some]<;>rfl),by repeat (first|(with_reducible first|exact HB.out|apply below_alloc|apply pw_below_drewN|apply below_drew1)|exact HB.out)⟩
      ·rw [if_neg c14] at H
       have c14b0:(t269.toList == ([57]:List UInt8)) = false:=beq_eq_false_iff_ne.mpr c14
       have c14b1:(t269.toList != ([57]:List UInt8)) = true:=bne_iff_ne.mpr c14
       obtain rfl:=Option.some.inj H
       go_enter Tryd.func11,Tryd.ntmps11
       go_wp2_with (first|((with_reducible refine gate_callee (f:=17) rfl ?_);refine goesL_ (some 19) rfl rfl Tryd.func17 (by kernel_rfl) rfl #[.string (⟨#[49,48,48,48,48,48,48,48,48,48,48,48,48,48,48,48,48,48,48,48,48]⟩:ByteArray),.string (⟨#[49]⟩:ByteArray)] rfl (by (try simp only [List.map_toArray,List.map_cons,List.map_nil]);first|done|rfl|(simp only [List.length_drop,List.length_take];rfl)) ?_;(with_reducible refine (natural_Add.calls (⟨#[49,48,48,48,48,48,48,48,48,48,48,48,48,48,48,48,48,48,48,48,48]⟩:ByteArray) (⟨#[49]⟩:ByteArray) t262 t263 _ ?side1 A1.out).mono ?_);(case side1=>exact HLW.out.below (by repeat (first|(with_reducible first|exact HB.out|apply below_alloc|apply pw_below_drewN|apply below_drew1)|exact HB.out)));rintro e w80 ⟨rfl,hb⟩;refine ⟨_,rfl,?_⟩;have n0_:=Aside0.mk (below_step (by repeat (first|(with_reducible first|exact HB.out|apply below_alloc|apply pw_below_drewN|apply below_drew1)|exact HB.out)) hb);clear HB;have HB:=n0_;clear n0_;(try clear hb);(try clear hb2);(try clear hk);(try clear hi))|((with_reducible refine gate_callee (f:=23) rfl ?_);refine goesL_ (some 23) rfl rfl Tryd.func23 (by kernel_rfl) rfl #[.string (⟨#[49,48,48,48,48,48,48,48,48,55]⟩:ByteArray),.string (⟨#[49,48]⟩:ByteArray)] rfl (by (try simp only [List.map_toArray,List.map_cons,List.map_nil]);first|done|rfl|(simp only [List.length_drop,List.length_take];rfl)) ?_;(with_reducible refine (natural_DivMod.calls k (⟨#[49,48,48,48,48,48,48,48,48,55]⟩:ByteArray) (⟨#[49,48]⟩:ByteArray) t264 t265 t266 _ ?side1 A2.out).mono ?_);(case side1=>exact HLW.out.below (by repeat (first|(with_reducible first|exact HB.out|apply below_alloc|apply pw_below_drewN|apply below_drew1)|exact HB.out)));rintro e w81 ⟨rfl,hb⟩;refine ⟨_,rfl,?_⟩;have n0_:=Aside0.mk (below_step (by repeat (first|(with_reducible first|exact HB.out|apply below_alloc|apply pw_below_drewN|apply below_drew1)|exact HB.out)) hb);clear HB;have HB:=n0_;clear n0_;(try clear hb);(try clear hb2);(try clear hk);(try clear hi))|((with_reducible refine gate_callee (f:=25) rfl ?_);refine goesL_ (some 28) rfl rfl Tryd.func25 (by kernel_rfl) rfl #[.string (⟨#[56,52]⟩:ByteArray),.string (⟨#[51,54]⟩:ByteArray)] rfl (by (try simp only [List.map_toArray,List.map_cons,List.map_nil]);first|done|rfl|(simp only [List.length_drop,List.length_take];rfl)) ?_;(with_reducible refine (natural_GCD.calls (⟨#[56,52]⟩:ByteArray) (⟨#[51,54]⟩:ByteArray) t267 t268 _ ?side1 A3.out).mono ?_);(case side1=>exact HLW.out.below (by repeat (first|(with_reducible first|exact HB.out|apply below_alloc|apply pw_below_drewN|apply below_drew1)|exact HB.out)));rintro e w82 ⟨rfl,hb⟩;refine ⟨_,rfl,?_⟩;have n0_:=Aside0.mk (below_step (by repeat (first|(with_reducible first|exact HB.out|apply below_alloc|apply pw_below_drewN|apply below_drew1)|exact HB.out)) hb);clear HB;have HB:=n0_;clear n0_;(try clear hb);(try clear hb2);(try clear hk);(try clear hi))|((with_reducible refine gate_callee (f:=27) rfl ?_);refine goesL_ (some 32) rfl rfl Tryd.func27 (by kernel_rfl) rfl #[.string (⟨#[57,57]⟩:ByteArray)] rfl (by (try simp only [List.map_toArray,List.map_cons,List.map_nil]);first|done|rfl|(simp only [List.length_drop,List.length_take];rfl)) ?_;(with_reducible refine (natural_Root.calls k (⟨#[57,57]⟩:ByteArray) t269 t270 _ ?side1 A4.out).mono ?_);(case side1=>exact HLW.out.below (by repeat (first|(with_reducible first|exact HB.out|apply below_alloc|apply pw_below_drewN|apply below_drew1)|exact HB.out)));rintro e w83 ⟨rfl,hb⟩;refine ⟨_,rfl,?_⟩;have n0_:=Aside0.mk (below_step (by repeat (first|(with_reducible first|exact HB.out|apply below_alloc|apply pw_below_drewN|apply below_drew1)|exact HB.out)) hb);clear HB;have HB:=n0_;clear n0_;(try clear hb);(try clear hb2);(try clear hk);(try clear hi))|((with_reducible refine gate_callee (f:=29) rfl ?_);refine goesL_ (some 36) rfl rfl Tryd.func29 (by kernel_rfl) rfl #[.string (⟨#[49,48]⟩:ByteArray),.int .i64 20] rfl (by (try simp only [List.map_toArray,List.map_cons,List.map_nil]);first|done|rfl|(simp only [List.length_drop,List.length_take];rfl)) ?_;(with_reducible refine (natural_Pow.calls k (⟨#[49,48]⟩:ByteArray) 20 t271 t272 _ ?side1 A5.out).mono ?_);(case side1=>exact HLW.out.below (by repeat (first|(with_reducible first|exact HB.out|apply below_alloc|apply pw_below_drewN|apply below_drew1)|exact HB.out)));rintro e w84 ⟨rfl,hb⟩;refine ⟨_,rfl,?_⟩;have n0_:=Aside0.mk (below_step (by repeat (first|(with_reducible first|exact HB.out|apply below_alloc|apply pw_below_drewN|apply below_drew1)|exact HB.out)) hb);clear HB;have HB:=n0_;clear n0_;(try clear hb);(try clear hb2);(try clear hk);(try clear hi))|((with_reducible refine gate_callee (f:=21) rfl ?_);refine goesL_ (some 40) rfl rfl Tryd.func21 (by kernel_rfl) rfl #[.string (⟨#[57,57,57,57,57]⟩:ByteArray),.string (⟨#[57,57,57,57,57]⟩:ByteArray)] rfl (by (try simp only [List.map_toArray,List.map_cons,List.map_nil]);first|done|rfl|(simp only [List.length_drop,List.length_take];rfl)) ?_;(with_reducible refine (natural_Mul.calls (⟨#[57,57,57,57,57]⟩:ByteArray) (⟨#[57,57,57,57,57]⟩:ByteArray) t273 t274 _ ?side1 A6.out).mono ?_);(case side1=>exact HLW.out.below (by repeat (first|(with_reducible first|exact HB.out|apply below_alloc|apply pw_below_drewN|apply below_drew1)|exact HB.out)));rintro e w85 ⟨rfl,hb⟩;refine ⟨_,rfl,?_⟩;have n0_:=Aside0.mk (below_step (by repeat (first|(with_reducible first|exact HB.out|apply below_alloc|apply pw_below_drewN|apply below_drew1)|exact HB.out)) hb);clear HB;have HB:=n0_;clear n0_;(try clear hb);(try clear hb2);(try clear hk);(try clear hi))|((with_reducible refine gate_callee (f:=19) rfl ?_);refine goesL_ (some 44) rfl rfl Tryd.func19 (by kernel_rfl) rfl #[.string (⟨#[49,48,48,48]⟩:ByteArray),.string (⟨#[49]⟩:ByteArray)] rfl (by (try simp only [List.map_toArray,List.map_cons,List.map_nil]);first|done|rfl|(simp only [List.length_drop,List.length_take];rfl)) ?_;(with_reducible refine (natural_Sub.calls (⟨#[49,48,48,48]⟩:ByteArray) (⟨#[49]⟩:ByteArray) t275 t276 _ ?side1 A7.out).mono ?_);(case side1=>exact HLW.out.below (by repeat (first|(with_reducible first|exact HB.out|apply below_alloc|apply pw_below_drewN|apply below_drew1)|exact HB.out)));rintro e w86 ⟨rfl,hb⟩;refine ⟨_,rfl,?_⟩;have n0_:=Aside0.mk (below_step (by repeat (first|(with_reducible first|exact HB.out|apply below_alloc|apply pw_below_drewN|apply below_drew1)|exact HB.out)) hb);clear HB;have HB:=n0_;clear n0_;(try clear hb);(try clear hb2);(try clear hk);(try clear hi))|((with_reducible refine gate_callee (f:=13) rfl ?_);refine goesL_ (some 48) rfl rfl Tryd.func13 (by kernel_rfl) rfl #[.string (⟨#[49,48]⟩:ByteArray),.string (⟨#[57]⟩:ByteArray)] rfl (by (try simp only [List.map_toArray,List.map_cons,List.map_nil]);first|done|rfl|(simp only [List.length_drop,List.length_take];rfl)) ?_;(with_reducible refine (natural_Compare.calls k (⟨#[49,48]⟩:ByteArray) (⟨#[57]⟩:ByteArray) t277 t278 _ A8.out).mono ?_);rintro e w87 ⟨rfl,hb⟩;refine ⟨_,rfl,?_⟩;have n0_:=Aside0.mk (below_step (by repeat (first|(with_reducible first|exact HB.out|apply below_alloc|apply pw_below_drewN|apply below_drew1)|exact HB.out)) hb);clear HB;have HB:=n0_;clear n0_;(try clear hb);(try clear hb2);(try clear hk);(try clear hi)))
       go_ret
       exact ⟨by first|rfl|(simp [errW_none,errW_some]<;>rfl)|(simp [*,errW_none,errW_some]<;>rfl),by repeat (first|(with_reducible first|exact HB.out|apply below_alloc|apply pw_below_drewN|apply below_drew1)|exact HB.out)⟩
     ·rw [if_neg c13] at H
      have c13b0:(t267.toList == ([49,50]:List UInt8)) = false:=beq_eq_false_iff_ne.mpr c13
      have c13b1:(t267.toList != ([49,50]:List UInt8)) = true:=bne_iff_ne.mpr c13
      obtain rfl:=Option.some.inj H
      go_enter Tryd.func11,Tryd.ntmps11
      go_wp2_with (first|((with_reducible refine gate_callee (f:=17) rfl ?_);refine goesL_ (some 19) rfl rfl Tryd.func17 (by kernel_rfl) rfl #[.string (⟨#[49,48,48,48,48,48,48,48,48,48,48,48,48,48,48,48,48,48,48,48,48]⟩:ByteArray),.string (⟨#[49]⟩:ByteArray)] rfl (by (try simp only [List.map_toArray,List.map_cons,List.map_nil]);first|done|rfl|(simp only [List.length_drop,List.length_take];rfl)) ?_;(with_reducible refine (natural_Add.calls (⟨#[49,48,48,48,48,48,48,48,48,48,48,48,48,48,48,48,48,48,48,48,48]⟩:ByteArray) (⟨#[49]⟩:ByteArray) t262 t263 _ ?side1 A1.out).mono ?_);(case side1=>exact HLW.out.below (by repeat (first|(with_reducible first|exact HB.out|apply below_alloc|apply pw_below_drewN|apply below_drew1)|exact HB.out)));rintro e w88 ⟨rfl,hb⟩;refine ⟨_,rfl,?_⟩;have n0_:=Aside0.mk (below_step (by repeat (first|(with_reducible first|exact HB.out|apply below_alloc|apply pw_below_drewN|apply below_drew1)|exact HB.out)) hb);clear HB;have HB:=n0_;clear n0_;(try clear hb);(try clear hb2);(try clear hk);(try clear hi))|((with_reducible refine gate_callee (f:=23) rfl ?_);refine goesL_ (some 23) rfl rfl Tryd.func23 (by kernel_rfl) rfl #[.string (⟨#[49,48,48,48,48,48,48,48,48,55]⟩:ByteArray),.string (⟨#[49,48]⟩:ByteArray)] rfl (by (try simp only [List.map_toArray,List.map_cons,List.map_nil]);first|done|rfl|(simp only [List.length_drop,List.length_take];rfl)) ?_;(with_reducible refine (natural_DivMod.calls k (⟨#[49,48,48,48,48,48,48,48,48,55]⟩:ByteArray) (⟨#[49,48]⟩:ByteArray) t264 t265 t266 _ ?side1 A2.out).mono ?_);(case side1=>exact HLW.out.below (by repeat (first|(with_reducible first|exact HB.out|apply below_alloc|apply pw_below_drewN|apply below_drew1)|exact HB.out)));rintro e w89 ⟨rfl,hb⟩;refine ⟨_,rfl,?_⟩;have n0_:=Aside0.mk (below_step (by repeat (first|(with_reducible first|exact HB.out|apply below_alloc|apply pw_below_drewN|apply below_drew1)|exact HB.out)) hb);clear HB;have HB:=n0_;clear n0_;(try clear hb);(try clear hb2);(try clear hk);(try clear hi))|((with_reducible refine gate_callee (f:=25) rfl ?_);refine goesL_ (some 28) rfl rfl Tryd.func25 (by kernel_rfl) rfl #[.string (⟨#[56,52]⟩:ByteArray),.string (⟨#[51,54]⟩:ByteArray)] rfl (by (try simp only [List.map_toArray,List.map_cons,List.map_nil]);first|done|rfl|(simp only [List.length_drop,List.length_take];rfl)) ?_;(with_reducible refine (natural_GCD.calls (⟨#[56,52]⟩:ByteArray) (⟨#[51,54]⟩:ByteArray) t267 t268 _ ?side1 A3.out).mono ?_);(case side1=>exact HLW.out.below (by repeat (first|(with_reducible first|exact HB.out|apply below_alloc|apply pw_below_drewN|apply below_drew1)|exact HB.out)));rintro e w90 ⟨rfl,hb⟩;refine ⟨_,rfl,?_⟩;have n0_:=Aside0.mk (below_step (by repeat (first|(with_reducible first|exact HB.out|apply below_alloc|apply pw_below_drewN|apply below_drew1)|exact HB.out)) hb);clear HB;have HB:=n0_;clear n0_;(try clear hb);(try clear hb2);(try clear hk);(try clear hi))|((with_reducible refine gate_callee (f:=27) rfl ?_);refine goesL_ (some 32) rfl rfl Tryd.func27 (by kernel_rfl) rfl #[.string (⟨#[57,57]⟩:ByteArray)] rfl (by (try simp only [List.map_toArray,List.map_cons,List.map_nil]);first|done|rfl|(simp only [List.length_drop,List.length_take];rfl)) ?_;(with_reducible refine (natural_Root.calls k (⟨#[57,57]⟩:ByteArray) t269 t270 _ ?side1 A4.out).mono ?_);(case side1=>exact HLW.out.below (by repeat (first|(with_reducible first|exact HB.out|apply below_alloc|apply pw_below_drewN|apply below_drew1)|exact HB.out)));rintro e w91 ⟨rfl,hb⟩;refine ⟨_,rfl,?_⟩;have n0_:=Aside0.mk (below_step (by repeat (first|(with_reducible first|exact HB.out|apply below_alloc|apply pw_below_drewN|apply below_drew1)|exact HB.out)) hb);clear HB;have HB:=n0_;clear n0_;(try clear hb);(try clear hb2);(try clear hk);(try clear hi))|((with_reducible refine gate_callee (f:=29) rfl ?_);refine goesL_ (some 36) rfl rfl Tryd.func29 (by kernel_rfl) rfl #[.string (⟨#[49,48]⟩:ByteArray),.int .i64 20] rfl (by (try simp only [List.map_toArray,List.map_cons,List.map_nil]);first|done|rfl|(simp only [List.length_drop,List.length_take];rfl)) ?_;(with_reducible refine (natural_Pow.calls k (⟨#[49,48]⟩:ByteArray) 20 t271 t272 _ ?side1 A5.out).mono ?_);(case side1=>exact HLW.out.below (by repeat (first|(with_reducible first|exact HB.out|apply below_alloc|apply pw_below_drewN|apply below_drew1)|exact HB.out)));rintro e w92 ⟨rfl,hb⟩;refine ⟨_,rfl,?_⟩;have n0_:=Aside0.mk (below_step (by repeat (first|(with_reducible first|exact HB.out|apply below_alloc|apply pw_below_drewN|apply below_drew1)|exact HB.out)) hb);clear HB;have HB:=n0_;clear n0_;(try clear hb);(try clear hb2);(try clear hk);(try clear hi))|((with_reducible refine gate_callee (f:=21) rfl ?_);refine goesL_ (some 40) rfl rfl Tryd.func21 (by kernel_rfl) rfl #[.string (⟨#[57,57,57,57,57]⟩:ByteArray),.string (⟨#[57,57,57,57,57]⟩:ByteArray)] rfl (by (try simp only [List.map_toArray,List.map_cons,List.map_nil]);first|done|rfl|(simp only [List.length_drop,List.length_take];rfl)) ?_;(with_reducible refine (natural_Mul.calls (⟨#[57,57,57,57,57]⟩:ByteArray) (⟨#[57,57,57,57,57]⟩:ByteArray) t273 t274 _ ?side1 A6.out).mono ?_);(case side1=>exact HLW.out.below (by repeat (first|(with_reducible first|exact HB.out|apply below_alloc|apply pw_below_drewN|apply below_drew1)|exact HB.out)));rintro e w93 ⟨rfl,hb⟩;refine ⟨_,rfl,?_⟩;have n0_:=Aside0.mk (below_step (by repeat (first|(with_reducible first|exact HB.out|apply below_alloc|apply pw_below_drewN|apply below_drew1)|exact HB.out)) hb);clear HB;have HB:=n0_;clear n0_;(try clear hb);(try clear hb2);(try clear hk);(try clear hi))|((with_reducible refine gate_callee (f:=19) rfl ?_);refine goesL_ (some 44) rfl rfl Tryd.func19 (by kernel_rfl) rfl #[.string (⟨#[49,48,48,48]⟩:ByteArray),.string (⟨#[49]⟩:ByteArray)] rfl (by (try simp only [List.map_toArray,List.map_cons,List.map_nil]);first|done|rfl|(simp only [List.length_drop,List.length_take];rfl)) ?_;(with_reducible refine (natural_Sub.calls (⟨#[49,48,48,48]⟩:ByteArray) (⟨#[49]⟩:ByteArray) t275 t276 _ ?side1 A7.out).mono ?_);(case side1=>exact HLW.out.below (by repeat (first|(with_reducible first|exact HB.out|apply below_alloc|apply pw_below_drewN|apply below_drew1)|exact HB.out)));rintro e w94 ⟨rfl,hb⟩;refine ⟨_,rfl,?_⟩;have n0_:=Aside0.mk (below_step (by repeat (first|(with_reducible first|exact HB.out|apply below_alloc|apply pw_below_drewN|apply below_drew1)|exact HB.out)) hb);clear HB;have HB:=n0_;clear n0_;(try clear hb);(try clear hb2);(try clear hk);(try clear hi))|((with_reducible refine gate_callee (f:=13) rfl ?_);refine goesL_ (some 48) rfl rfl Tryd.func13 (by kernel_rfl) rfl #[.string (⟨#[49,48]⟩:ByteArray),.string (⟨#[57]⟩:ByteArray)] rfl (by (try simp only [List.map_toArray,List.map_cons,List.map_nil]);first|done|rfl|(simp only [List.length_drop,List.length_take];rfl)) ?_;(with_reducible refine (natural_Compare.calls k (⟨#[49,48]⟩:ByteArray) (⟨#[57]⟩:ByteArray) t277 t278 _ A8.out).mono ?_);rintro e w95 ⟨rfl,hb⟩;refine ⟨_,rfl,?_⟩;have n0_:=Aside0.mk (below_step (by repeat (first|(with_reducible first|exact HB.out|apply below_alloc|apply pw_below_drewN|apply below_drew1)|exact HB.out)) hb);clear HB;have HB:=n0_;clear n0_;(try clear hb);(try clear hb2);(try clear hk);(try clear hi)))
      go_ret
      exact ⟨by first|rfl|(simp [errW_none,errW_some]<;>rfl)|(simp [*,errW_none,errW_some]<;>rfl),by repeat (first|(with_reducible first|exact HB.out|apply below_alloc|apply pw_below_drewN|apply below_drew1)|exact HB.out)⟩
    ·rw [if_neg c12] at H
     have c12b0:(t265.toList == ([55]:List UInt8)) = false:=beq_eq_false_iff_ne.mpr c12
     have c12b1:(t265.toList != ([55]:List UInt8)) = true:=bne_iff_ne.mpr c12
     obtain rfl:=Option.some.inj H
     go_enter Tryd.func11,Tryd.ntmps11
     go_wp2_with (first|((with_reducible refine gate_callee (f:=17) rfl ?_);refine goesL_ (some 19) rfl rfl Tryd.func17 (by kernel_rfl) rfl #[.string (⟨#[49,48,48,48,48,48,48,48,48,48,48,48,48,48,48,48,48,48,48,48,48]⟩:ByteArray),.string (⟨#[49]⟩:ByteArray)] rfl (by (try simp only [List.map_toArray,List.map_cons,List.map_nil]);first|done|rfl|(simp only [List.length_drop,List.length_take];rfl)) ?_;(with_reducible refine (natural_Add.calls (⟨#[49,48,48,48,48,48,48,48,48,48,48,48,48,48,48,48,48,48,48,48,48]⟩:ByteArray) (⟨#[49]⟩:ByteArray) t262 t263 _ ?side1 A1.out).mono ?_);(case side1=>exact HLW.out.below (by repeat (first|(with_reducible first|exact HB.out|apply below_alloc|apply pw_below_drewN|apply below_drew1)|exact HB.out)));rintro e w96 ⟨rfl,hb⟩;refine ⟨_,rfl,?_⟩;have n0_:=Aside0.mk (below_step (by repeat (first|(with_reducible first|exact HB.out|apply below_alloc|apply pw_below_drewN|apply below_drew1)|exact HB.out)) hb);clear HB;have HB:=n0_;clear n0_;(try clear hb);(try clear hb2);(try clear hk);(try clear hi))|((with_reducible refine gate_callee (f:=23) rfl ?_);refine goesL_ (some 23) rfl rfl Tryd.func23 (by kernel_rfl) rfl #[.string (⟨#[49,48,48,48,48,48,48,48,48,55]⟩:ByteArray),.string (⟨#[49,48]⟩:ByteArray)] rfl (by (try simp only [List.map_toArray,List.map_cons,List.map_nil]);first|done|rfl|(simp only [List.length_drop,List.length_take];rfl)) ?_;(with_reducible refine (natural_DivMod.calls k (⟨#[49,48,48,48,48,48,48,48,48,55]⟩:ByteArray) (⟨#[49,48]⟩:ByteArray) t264 t265 t266 _ ?side1 A2.out).mono ?_);(case side1=>exact HLW.out.below (by repeat (first|(with_reducible first|exact HB.out|apply below_alloc|apply pw_below_drewN|apply below_drew1)|exact HB.out)));rintro e w97 ⟨rfl,hb⟩;refine ⟨_,rfl,?_⟩;have n0_:=Aside0.mk (below_step (by repeat (first|(with_reducible first|exact HB.out|apply below_alloc|apply pw_below_drewN|apply below_drew1)|exact HB.out)) hb);clear HB;have HB:=n0_;clear n0_;(try clear hb);(try clear hb2);(try clear hk);(try clear hi))|((with_reducible refine gate_callee (f:=25) rfl ?_);refine goesL_ (some 28) rfl rfl Tryd.func25 (by kernel_rfl) rfl #[.string (⟨#[56,52]⟩:ByteArray),.string (⟨#[51,54]⟩:ByteArray)] rfl (by (try simp only [List.map_toArray,List.map_cons,List.map_nil]);first|done|rfl|(simp only [List.length_drop,List.length_take];rfl)) ?_;(with_reducible refine (natural_GCD.calls (⟨#[56,52]⟩:ByteArray) (⟨#[51,54]⟩:ByteArray) t267 t268 _ ?side1 A3.out).mono ?_);(case side1=>exact HLW.out.below (by repeat (first|(with_reducible first|exact HB.out|apply below_alloc|apply pw_below_drewN|apply below_drew1)|exact HB.out)));rintro e w98 ⟨rfl,hb⟩;refine ⟨_,rfl,?_⟩;have n0_:=Aside0.mk (below_step (by repeat (first|(with_reducible first|exact HB.out|apply below_alloc|apply pw_below_drewN|apply below_drew1)|exact HB.out)) hb);clear HB;have HB:=n0_;clear n0_;(try clear hb);(try clear hb2);(try clear hk);(try clear hi))|((with_reducible refine gate_callee (f:=27) rfl ?_);refine goesL_ (some 32) rfl rfl Tryd.func27 (by kernel_rfl) rfl #[.string (⟨#[57,57]⟩:ByteArray)] rfl (by (try simp only [List.map_toArray,List.map_cons,List.map_nil]);first|done|rfl|(simp only [List.length_drop,List.length_take];rfl)) ?_;(with_reducible refine (natural_Root.calls k (⟨#[57,57]⟩:ByteArray) t269 t270 _ ?side1 A4.out).mono ?_);(case side1=>exact HLW.out.below (by repeat (first|(with_reducible first|exact HB.out|apply below_alloc|apply pw_below_drewN|apply below_drew1)|exact HB.out)));rintro e w99 ⟨rfl,hb⟩;refine ⟨_,rfl,?_⟩;have n0_:=Aside0.mk (below_step (by repeat (first|(with_reducible first|exact HB.out|apply below_alloc|apply pw_below_drewN|apply below_drew1)|exact HB.out)) hb);clear HB;have HB:=n0_;clear n0_;(try clear hb);(try clear hb2);(try clear hk);(try clear hi))|((with_reducible refine gate_callee (f:=29) rfl ?_);refine goesL_ (some 36) rfl rfl Tryd.func29 (by kernel_rfl) rfl #[.string (⟨#[49,48]⟩:ByteArray),.int .i64 20] rfl (by (try simp only [List.map_toArray,List.map_cons,List.map_nil]);first|done|rfl|(simp only [List.length_drop,List.length_take];rfl)) ?_;(with_reducible refine (natural_Pow.calls k (⟨#[49,48]⟩:ByteArray) 20 t271 t272 _ ?side1 A5.out).mono ?_);(case side1=>exact HLW.out.below (by repeat (first|(with_reducible first|exact HB.out|apply below_alloc|apply pw_below_drewN|apply below_drew1)|exact HB.out)));rintro e w100 ⟨rfl,hb⟩;refine ⟨_,rfl,?_⟩;have n0_:=Aside0.mk (below_step (by repeat (first|(with_reducible first|exact HB.out|apply below_alloc|apply pw_below_drewN|apply below_drew1)|exact HB.out)) hb);clear HB;have HB:=n0_;clear n0_;(try clear hb);(try clear hb2);(try clear hk);(try clear hi))|((with_reducible refine gate_callee (f:=21) rfl ?_);refine goesL_ (some 40) rfl rfl Tryd.func21 (by kernel_rfl) rfl #[.string (⟨#[57,57,57,57,57]⟩:ByteArray),.string (⟨#[57,57,57,57,57]⟩:ByteArray)] rfl (by (try simp only [List.map_toArray,List.map_cons,List.map_nil]);first|done|rfl|(simp only [List.length_drop,List.length_take];rfl)) ?_;(with_reducible refine (natural_Mul.calls (⟨#[57,57,57,57,57]⟩:ByteArray) (⟨#[57,57,57,57,57]⟩:ByteArray) t273 t274 _ ?side1 A6.out).mono ?_);(case side1=>exact HLW.out.below (by repeat (first|(with_reducible first|exact HB.out|apply below_alloc|apply pw_below_drewN|apply below_drew1)|exact HB.out)));rintro e w101 ⟨rfl,hb⟩;refine ⟨_,rfl,?_⟩;have n0_:=Aside0.mk (below_step (by repeat (first|(with_reducible first|exact HB.out|apply below_alloc|apply pw_below_drewN|apply below_drew1)|exact HB.out)) hb);clear HB;have HB:=n0_;clear n0_;(try clear hb);(try clear hb2);(try clear hk);(try clear hi))|((with_reducible refine gate_callee (f:=19) rfl ?_);refine goesL_ (some 44) rfl rfl Tryd.func19 (by kernel_rfl) rfl #[.string (⟨#[49,48,48,48]⟩:ByteArray),.string (⟨#[49]⟩:ByteArray)] rfl (by (try simp only [List.map_toArray,List.map_cons,List.map_nil]);first|done|rfl|(simp only [List.length_drop,List.length_take];rfl)) ?_;(with_reducible refine (natural_Sub.calls (⟨#[49,48,48,48]⟩:ByteArray) (⟨#[49]⟩:ByteArray) t275 t276 _ ?side1 A7.out).mono ?_);(case side1=>exact HLW.out.below (by repeat (first|(with_reducible first|exact HB.out|apply below_alloc|apply pw_below_drewN|apply below_drew1)|exact HB.out)));rintro e w102 ⟨rfl,hb⟩;refine ⟨_,rfl,?_⟩;have n0_:=Aside0.mk (below_step (by repeat (first|(with_reducible first|exact HB.out|apply below_alloc|apply pw_below_drewN|apply below_drew1)|exact HB.out)) hb);clear HB;have HB:=n0_;clear n0_;(try clear hb);(try clear hb2);(try clear hk);(try clear hi))|((with_reducible refine gate_callee (f:=13) rfl ?_);refine goesL_ (some 48) rfl rfl Tryd.func13 (by kernel_rfl) rfl #[.string (⟨#[49,48]⟩:ByteArray),.string (⟨#[57]⟩:ByteArray)] rfl (by (try simp only [List.map_toArray,List.map_cons,List.map_nil]);first|done|rfl|(simp only [List.length_drop,List.length_take];rfl)) ?_;(with_reducible refine (natural_Compare.calls k (⟨#[49,48]⟩:ByteArray) (⟨#[57]⟩:ByteArray) t277 t278 _ A8.out).mono ?_);rintro e w103 ⟨rfl,hb⟩;refine ⟨_,rfl,?_⟩;have n0_:=Aside0.mk (below_step (by repeat (first|(with_reducible first|exact HB.out|apply below_alloc|apply pw_below_drewN|apply below_drew1)|exact HB.out)) hb);clear HB;have HB:=n0_;clear n0_;(try clear hb);(try clear hb2);(try clear hk);(try clear hi)))
     go_ret
     exact ⟨by first|rfl|(simp [errW_none,errW_some]<;>rfl)|(simp [*,errW_none,errW_some]<;>rfl),by repeat (first|(with_reducible first|exact HB.out|apply below_alloc|apply pw_below_drewN|apply below_drew1)|exact HB.out)⟩
   ·rw [if_neg c11] at H
    have c11b0:(t264.toList == ([49,48,48,48,48,48,48,48,48]:List UInt8)) = false:=beq_eq_false_iff_ne.mpr c11
    have c11b1:(t264.toList != ([49,48,48,48,48,48,48,48,48]:List UInt8)) = true:=bne_iff_ne.mpr c11
    obtain rfl:=Option.some.inj H
    go_enter Tryd.func11,Tryd.ntmps11
    go_wp2_with (first|((with_reducible refine gate_callee (f:=17) rfl ?_);refine goesL_ (some 19) rfl rfl Tryd.func17 (by kernel_rfl) rfl #[.string (⟨#[49,48,48,48,48,48,48,48,48,48,48,48,48,48,48,48,48,48,48,48,48]⟩:ByteArray),.string (⟨#[49]⟩:ByteArray)] rfl (by (try simp only [List.map_toArray,List.map_cons,List.map_nil]);first|done|rfl|(simp only [List.length_drop,List.length_take];rfl)) ?_;(with_reducible refine (natural_Add.calls (⟨#[49,48,48,48,48,48,48,48,48,48,48,48,48,48,48,48,48,48,48,48,48]⟩:ByteArray) (⟨#[49]⟩:ByteArray) t262 t263 _ ?side1 A1.out).mono ?_);(case side1=>exact HLW.out.below (by repeat (first|(with_reducible first|exact HB.out|apply below_alloc|apply pw_below_drewN|apply below_drew1)|exact HB.out)));rintro e w104 ⟨rfl,hb⟩;refine ⟨_,rfl,?_⟩;have n0_:=Aside0.mk (below_step (by repeat (first|(with_reducible first|exact HB.out|apply below_alloc|apply pw_below_drewN|apply below_drew1)|exact HB.out)) hb);clear HB;have HB:=n0_;clear n0_;(try clear hb);(try clear hb2);(try clear hk);(try clear hi))|((with_reducible refine gate_callee (f:=23) rfl ?_);refine goesL_ (some 23) rfl rfl Tryd.func23 (by kernel_rfl) rfl #[.string (⟨#[49,48,48,48,48,48,48,48,48,55]⟩:ByteArray),.string (⟨#[49,48]⟩:ByteArray)] rfl (by (try simp only [List.map_toArray,List.map_cons,List.map_nil]);first|done|rfl|(simp only [List.length_drop,List.length_take];rfl)) ?_;(with_reducible refine (natural_DivMod.calls k (⟨#[49,48,48,48,48,48,48,48,48,55]⟩:ByteArray) (⟨#[49,48]⟩:ByteArray) t264 t265 t266 _ ?side1 A2.out).mono ?_);(case side1=>exact HLW.out.below (by repeat (first|(with_reducible first|exact HB.out|apply below_alloc|apply pw_below_drewN|apply below_drew1)|exact HB.out)));rintro e w105 ⟨rfl,hb⟩;refine ⟨_,rfl,?_⟩;have n0_:=Aside0.mk (below_step (by repeat (first|(with_reducible first|exact HB.out|apply below_alloc|apply pw_below_drewN|apply below_drew1)|exact HB.out)) hb);clear HB;have HB:=n0_;clear n0_;(try clear hb);(try clear hb2);(try clear hk);(try clear hi))|((with_reducible refine gate_callee (f:=25) rfl ?_);refine goesL_ (some 28) rfl rfl Tryd.func25 (by kernel_rfl) rfl #[.string (⟨#[56,52]⟩:ByteArray),.string (⟨#[51,54]⟩:ByteArray)] rfl (by (try simp only [List.map_toArray,List.map_cons,List.map_nil]);first|done|rfl|(simp only [List.length_drop,List.length_take];rfl)) ?_;(with_reducible refine (natural_GCD.calls (⟨#[56,52]⟩:ByteArray) (⟨#[51,54]⟩:ByteArray) t267 t268 _ ?side1 A3.out).mono ?_);(case side1=>exact HLW.out.below (by repeat (first|(with_reducible first|exact HB.out|apply below_alloc|apply pw_below_drewN|apply below_drew1)|exact HB.out)));rintro e w106 ⟨rfl,hb⟩;refine ⟨_,rfl,?_⟩;have n0_:=Aside0.mk (below_step (by repeat (first|(with_reducible first|exact HB.out|apply below_alloc|apply pw_below_drewN|apply below_drew1)|exact HB.out)) hb);clear HB;have HB:=n0_;clear n0_;(try clear hb);(try clear hb2);(try clear hk);(try clear hi))|((with_reducible refine gate_callee (f:=27) rfl ?_);refine goesL_ (some 32) rfl rfl Tryd.func27 (by kernel_rfl) rfl #[.string (⟨#[57,57]⟩:ByteArray)] rfl (by (try simp only [List.map_toArray,List.map_cons,List.map_nil]);first|done|rfl|(simp only [List.length_drop,List.length_take];rfl)) ?_;(with_reducible refine (natural_Root.calls k (⟨#[57,57]⟩:ByteArray) t269 t270 _ ?side1 A4.out).mono ?_);(case side1=>exact HLW.out.below (by repeat (first|(with_reducible first|exact HB.out|apply below_alloc|apply pw_below_drewN|apply below_drew1)|exact HB.out)));rintro e w107 ⟨rfl,hb⟩;refine ⟨_,rfl,?_⟩;have n0_:=Aside0.mk (below_step (by repeat (first|(with_reducible first|exact HB.out|apply below_alloc|apply pw_below_drewN|apply below_drew1)|exact HB.out)) hb);clear HB;have HB:=n0_;clear n0_;(try clear hb);(try clear hb2);(try clear hk);(try clear hi))|((with_reducible refine gate_callee (f:=29) rfl ?_);refine goesL_ (some 36) rfl rfl Tryd.func29 (by kernel_rfl) rfl #[.string (⟨#[49,48]⟩:ByteArray),.int .i64 20] rfl (by (try simp only [List.map_toArray,List.map_cons,List.map_nil]);first|done|rfl|(simp only [List.length_drop,List.length_take];rfl)) ?_;(with_reducible refine (natural_Pow.calls k (⟨#[49,48]⟩:ByteArray) 20 t271 t272 _ ?side1 A5.out).mono ?_);(case side1=>exact HLW.out.below (by repeat (first|(with_reducible first|exact HB.out|apply below_alloc|apply pw_below_drewN|apply below_drew1)|exact HB.out)));rintro e w108 ⟨rfl,hb⟩;refine ⟨_,rfl,?_⟩;have n0_:=Aside0.mk (below_step (by repeat (first|(with_reducible first|exact HB.out|apply below_alloc|apply pw_below_drewN|apply below_drew1)|exact HB.out)) hb);clear HB;have HB:=n0_;clear n0_;(try clear hb);(try clear hb2);(try clear hk);(try clear hi))|((with_reducible refine gate_callee (f:=21) rfl ?_);refine goesL_ (some 40) rfl rfl Tryd.func21 (by kernel_rfl) rfl #[.string (⟨#[57,57,57,57,57]⟩:ByteArray),.string (⟨#[57,57,57,57,57]⟩:ByteArray)] rfl (by (try simp only [List.map_toArray,List.map_cons,List.map_nil]);first|done|rfl|(simp only [List.length_drop,List.length_take];rfl)) ?_;(with_reducible refine (natural_Mul.calls (⟨#[57,57,57,57,57]⟩:ByteArray) (⟨#[57,57,57,57,57]⟩:ByteArray) t273 t274 _ ?side1 A6.out).mono ?_);(case side1=>exact HLW.out.below (by repeat (first|(with_reducible first|exact HB.out|apply below_alloc|apply pw_below_drewN|apply below_drew1)|exact HB.out)));rintro e w109 ⟨rfl,hb⟩;refine ⟨_,rfl,?_⟩;have n0_:=Aside0.mk (below_step (by repeat (first|(with_reducible first|exact HB.out|apply below_alloc|apply pw_below_drewN|apply below_drew1)|exact HB.out)) hb);clear HB;have HB:=n0_;clear n0_;(try clear hb);(try clear hb2);(try clear hk);(try clear hi))|((with_reducible refine gate_callee (f:=19) rfl ?_);refine goesL_ (some 44) rfl rfl Tryd.func19 (by kernel_rfl) rfl #[.string (⟨#[49,48,48,48]⟩:ByteArray),.string (⟨#[49]⟩:ByteArray)] rfl (by (try simp only [List.map_toArray,List.map_cons,List.map_nil]);first|done|rfl|(simp only [List.length_drop,List.length_take];rfl)) ?_;(with_reducible refine (natural_Sub.calls (⟨#[49,48,48,48]⟩:ByteArray) (⟨#[49]⟩:ByteArray) t275 t276 _ ?side1 A7.out).mono ?_);(case side1=>exact HLW.out.below (by repeat (first|(with_reducible first|exact HB.out|apply below_alloc|apply pw_below_drewN|apply below_drew1)|exact HB.out)));rintro e w110 ⟨rfl,hb⟩;refine ⟨_,rfl,?_⟩;have n0_:=Aside0.mk (below_step (by repeat (first|(with_reducible first|exact HB.out|apply below_alloc|apply pw_below_drewN|apply below_drew1)|exact HB.out)) hb);clear HB;have HB:=n0_;clear n0_;(try clear hb);(try clear hb2);(try clear hk);(try clear hi))|((with_reducible refine gate_callee (f:=13) rfl ?_);refine goesL_ (some 48) rfl rfl Tryd.func13 (by kernel_rfl) rfl #[.string (⟨#[49,48]⟩:ByteArray),.string (⟨#[57]⟩:ByteArray)] rfl (by (try simp only [List.map_toArray,List.map_cons,List.map_nil]);first|done|rfl|(simp only [List.length_drop,List.length_take];rfl)) ?_;(with_reducible refine (natural_Compare.calls k (⟨#[49,48]⟩:ByteArray) (⟨#[57]⟩:ByteArray) t277 t278 _ A8.out).mono ?_);rintro e w111 ⟨rfl,hb⟩;refine ⟨_,rfl,?_⟩;have n0_:=Aside0.mk (below_step (by repeat (first|(with_reducible first|exact HB.out|apply below_alloc|apply pw_below_drewN|apply below_drew1)|exact HB.out)) hb);clear HB;have HB:=n0_;clear n0_;(try clear hb);(try clear hb2);(try clear hk);(try clear hi)))
    go_ret
    exact ⟨by first|rfl|(simp [errW_none,errW_some]<;>rfl)|(simp [*,errW_none,errW_some]<;>rfl),by repeat (first|(with_reducible first|exact HB.out|apply below_alloc|apply pw_below_drewN|apply below_drew1)|exact HB.out)⟩
  ·rw [if_neg c10] at H
   have c10b0:(t262.toList == ([49,48,48,48,48,48,48,48,48,48,48,48,48,48,48,48,48,48,48,48,49]:List UInt8)) = false:=beq_eq_false_iff_ne.mpr c10
   have c10b1:(t262.toList != ([49,48,48,48,48,48,48,48,48,48,48,48,48,48,48,48,48,48,48,48,49]:List UInt8)) = true:=bne_iff_ne.mpr c10
   obtain rfl:=Option.some.inj H
   go_enter Tryd.func11,Tryd.ntmps11
   go_wp2_with (first|((with_reducible refine gate_callee (f:=17) rfl ?_);refine goesL_ (some 19) rfl rfl Tryd.func17 (by kernel_rfl) rfl #[.string (⟨#[49,48,48,48,48,48,48,48,48,48,48,48,48,48,48,48,48,48,48,48,48]⟩:ByteArray),.string (⟨#[49]⟩:ByteArray)] rfl (by (try simp only [List.map_toArray,List.map_cons,List.map_nil]);first|done|rfl|(simp only [List.length_drop,List.length_take];rfl)) ?_;(with_reducible refine (natural_Add.calls (⟨#[49,48,48,48,48,48,48,48,48,48,48,48,48,48,48,48,48,48,48,48,48]⟩:ByteArray) (⟨#[49]⟩:ByteArray) t262 t263 _ ?side1 A1.out).mono ?_);(case side1=>exact HLW.out.below (by repeat (first|(with_reducible first|exact HB.out|apply below_alloc|apply pw_below_drewN|apply below_drew1)|exact HB.out)));rintro e w112 ⟨rfl,hb⟩;refine ⟨_,rfl,?_⟩;have n0_:=Aside0.mk (below_step (by repeat (first|(with_reducible first|exact HB.out|apply below_alloc|apply pw_below_drewN|apply below_drew1)|exact HB.out)) hb);clear HB;have HB:=n0_;clear n0_;(try clear hb);(try clear hb2);(try clear hk);(try clear hi))|((with_reducible refine gate_callee (f:=23) rfl ?_);refine goesL_ (some 23) rfl rfl Tryd.func23 (by kernel_rfl) rfl #[.string (⟨#[49,48,48,48,48,48,48,48,48,55]⟩:ByteArray),.string (⟨#[49,48]⟩:ByteArray)] rfl (by (try simp only [List.map_toArray,List.map_cons,List.map_nil]);first|done|rfl|(simp only [List.length_drop,List.length_take];rfl)) ?_;(with_reducible refine (natural_DivMod.calls k (⟨#[49,48,48,48,48,48,48,48,48,55]⟩:ByteArray) (⟨#[49,48]⟩:ByteArray) t264 t265 t266 _ ?side1 A2.out).mono ?_);(case side1=>exact HLW.out.below (by repeat (first|(with_reducible first|exact HB.out|apply below_alloc|apply pw_below_drewN|apply below_drew1)|exact HB.out)));rintro e w113 ⟨rfl,hb⟩;refine ⟨_,rfl,?_⟩;have n0_:=Aside0.mk (below_step (by repeat (first|(with_reducible first|exact HB.out|apply below_alloc|apply pw_below_drewN|apply below_drew1)|exact HB.out)) hb);clear HB;have HB:=n0_;clear n0_;(try clear hb);(try clear hb2);(try clear hk);(try clear hi))|((with_reducible refine gate_callee (f:=25) rfl ?_);refine goesL_ (some 28) rfl rfl Tryd.func25 (by kernel_rfl) rfl #[.string (⟨#[56,52]⟩:ByteArray),.string (⟨#[51,54]⟩:ByteArray)] rfl (by (try simp only [List.map_toArray,List.map_cons,List.map_nil]);first|done|rfl|(simp only [List.length_drop,List.length_take];rfl)) ?_;(with_reducible refine (natural_GCD.calls (⟨#[56,52]⟩:ByteArray) (⟨#[51,54]⟩:ByteArray) t267 t268 _ ?side1 A3.out).mono ?_);(case side1=>exact HLW.out.below (by repeat (first|(with_reducible first|exact HB.out|apply below_alloc|apply pw_below_drewN|apply below_drew1)|exact HB.out)));rintro e w114 ⟨rfl,hb⟩;refine ⟨_,rfl,?_⟩;have n0_:=Aside0.mk (below_step (by repeat (first|(with_reducible first|exact HB.out|apply below_alloc|apply pw_below_drewN|apply below_drew1)|exact HB.out)) hb);clear HB;have HB:=n0_;clear n0_;(try clear hb);(try clear hb2);(try clear hk);(try clear hi))|((with_reducible refine gate_callee (f:=27) rfl ?_);refine goesL_ (some 32) rfl rfl Tryd.func27 (by kernel_rfl) rfl #[.string (⟨#[57,57]⟩:ByteArray)] rfl (by (try simp only [List.map_toArray,List.map_cons,List.map_nil]);first|done|rfl|(simp only [List.length_drop,List.length_take];rfl)) ?_;(with_reducible refine (natural_Root.calls k (⟨#[57,57]⟩:ByteArray) t269 t270 _ ?side1 A4.out).mono ?_);(case side1=>exact HLW.out.below (by repeat (first|(with_reducible first|exact HB.out|apply below_alloc|apply pw_below_drewN|apply below_drew1)|exact HB.out)));rintro e w115 ⟨rfl,hb⟩;refine ⟨_,rfl,?_⟩;have n0_:=Aside0.mk (below_step (by repeat (first|(with_reducible first|exact HB.out|apply below_alloc|apply pw_below_drewN|apply below_drew1)|exact HB.out)) hb);clear HB;have HB:=n0_;clear n0_;(try clear hb);(try clear hb2);(try clear hk);(try clear hi))|((with_reducible refine gate_callee (f:=29) rfl ?_);refine goesL_ (some 36) rfl rfl Tryd.func29 (by kernel_rfl) rfl #[.string (⟨#[49,48]⟩:ByteArray),.int .i64 20] rfl (by (try simp only [List.map_toArray,List.map_cons,List.map_nil]);first|done|rfl|(simp only [List.length_drop,List.length_take];rfl)) ?_;(with_reducible refine (natural_Pow.calls k (⟨#[49,48]⟩:ByteArray) 20 t271 t272 _ ?side1 A5.out).mono ?_);(case side1=>exact HLW.out.below (by repeat (first|(with_reducible first|exact HB.out|apply below_alloc|apply pw_below_drewN|apply below_drew1)|exact HB.out)));rintro e w116 ⟨rfl,hb⟩;refine ⟨_,rfl,?_⟩;have n0_:=Aside0.mk (below_step (by repeat (first|(with_reducible first|exact HB.out|apply below_alloc|apply pw_below_drewN|apply below_drew1)|exact HB.out)) hb);clear HB;have HB:=n0_;clear n0_;(try clear hb);(try clear hb2);(try clear hk);(try clear hi))|((with_reducible refine gate_callee (f:=21) rfl ?_);refine goesL_ (some 40) rfl rfl Tryd.func21 (by kernel_rfl) rfl #[.string (⟨#[57,57,57,57,57]⟩:ByteArray),.string (⟨#[57,57,57,57,57]⟩:ByteArray)] rfl (by (try simp only [List.map_toArray,List.map_cons,List.map_nil]);first|done|rfl|(simp only [List.length_drop,List.length_take];rfl)) ?_;(with_reducible refine (natural_Mul.calls (⟨#[57,57,57,57,57]⟩:ByteArray) (⟨#[57,57,57,57,57]⟩:ByteArray) t273 t274 _ ?side1 A6.out).mono ?_);(case side1=>exact HLW.out.below (by repeat (first|(with_reducible first|exact HB.out|apply below_alloc|apply pw_below_drewN|apply below_drew1)|exact HB.out)));rintro e w117 ⟨rfl,hb⟩;refine ⟨_,rfl,?_⟩;have n0_:=Aside0.mk (below_step (by repeat (first|(with_reducible first|exact HB.out|apply below_alloc|apply pw_below_drewN|apply below_drew1)|exact HB.out)) hb);clear HB;have HB:=n0_;clear n0_;(try clear hb);(try clear hb2);(try clear hk);(try clear hi))|((with_reducible refine gate_callee (f:=19) rfl ?_);refine goesL_ (some 44) rfl rfl Tryd.func19 (by kernel_rfl) rfl #[.string (⟨#[49,48,48,48]⟩:ByteArray),.string (⟨#[49]⟩:ByteArray)] rfl (by (try simp only [List.map_toArray,List.map_cons,List.map_nil]);first|done|rfl|(simp only [List.length_drop,List.length_take];rfl)) ?_;(with_reducible refine (natural_Sub.calls (⟨#[49,48,48,48]⟩:ByteArray) (⟨#[49]⟩:ByteArray) t275 t276 _ ?side1 A7.out).mono ?_);(case side1=>exact HLW.out.below (by repeat (first|(with_reducible first|exact HB.out|apply below_alloc|apply pw_below_drewN|apply below_drew1)|exact HB.out)));rintro e w118 ⟨rfl,hb⟩;refine ⟨_,rfl,?_⟩;have n0_:=Aside0.mk (below_step (by repeat (first|(with_reducible first|exact HB.out|apply below_alloc|apply pw_below_drewN|apply below_drew1)|exact HB.out)) hb);clear HB;have HB:=n0_;clear n0_;(try clear hb);(try clear hb2);(try clear hk);(try clear hi))|((with_reducible refine gate_callee (f:=13) rfl ?_);refine goesL_ (some 48) rfl rfl Tryd.func13 (by kernel_rfl) rfl #[.string (⟨#[49,48]⟩:ByteArray),.string (⟨#[57]⟩:ByteArray)] rfl (by (try simp only [List.map_toArray,List.map_cons,List.map_nil]);first|done|rfl|(simp only [List.length_drop,List.length_take];rfl)) ?_;(with_reducible refine (natural_Compare.calls k (⟨#[49,48]⟩:ByteArray) (⟨#[57]⟩:ByteArray) t277 t278 _ A8.out).mono ?_);rintro e w119 ⟨rfl,hb⟩;refine ⟨_,rfl,?_⟩;have n0_:=Aside0.mk (below_step (by repeat (first|(with_reducible first|exact HB.out|apply below_alloc|apply pw_below_drewN|apply below_drew1)|exact HB.out)) hb);clear HB;have HB:=n0_;clear n0_;(try clear hb);(try clear hb2);(try clear hk);(try clear hi)))
   go_ret
   exact ⟨by first|rfl|(simp [errW_none,errW_some]<;>rfl)|(simp [*,errW_none,errW_some]<;>rfl),by repeat (first|(with_reducible first|exact HB.out|apply below_alloc|apply pw_below_drewN|apply below_drew1)|exact HB.out)⟩
 ·rw [if_neg c9] at H
  have c9b0:((wrap64 ((wrap64 ((wrap64 ((wrap64 ((wrap64 ((wrap64 ((wrap64 (t263 + t266)) + t268)) + t270)) + t272)) + t274)) + t276)) + t278)) == 0) = false:=beq_eq_false_iff_ne.mpr c9
  have c9b1:((wrap64 ((wrap64 ((wrap64 ((wrap64 ((wrap64 ((wrap64 ((wrap64 (t263 + t266)) + t268)) + t270)) + t272)) + t274)) + t276)) + t278)) != 0) = true:=bne_iff_ne.mpr c9
  obtain rfl:=Option.some.inj H
  go_enter Tryd.func11,Tryd.ntmps11
  go_wp2_with (first|((with_reducible refine gate_callee (f:=17) rfl ?_);refine goesL_ (some 19) rfl rfl Tryd.func17 (by kernel_rfl) rfl #[.string (⟨#[49,48,48,48,48,48,48,48,48,48,48,48,48,48,48,48,48,48,48,48,48]⟩:ByteArray),.string (⟨#[49]⟩:ByteArray)] rfl (by (try simp only [List.map_toArray,List.map_cons,List.map_nil]);first|done|rfl|(simp only [List.length_drop,List.length_take];rfl)) ?_;(with_reducible refine (natural_Add.calls (⟨#[49,48,48,48,48,48,48,48,48,48,48,48,48,48,48,48,48,48,48,48,48]⟩:ByteArray) (⟨#[49]⟩:ByteArray) t262 t263 _ ?side1 A1.out).mono ?_);(case side1=>exact HLW.out.below (by repeat (first|(with_reducible first|exact HB.out|apply below_alloc|apply pw_below_drewN|apply below_drew1)|exact HB.out)));rintro e w120 ⟨rfl,hb⟩;refine ⟨_,rfl,?_⟩;have n0_:=Aside0.mk (below_step (by repeat (first|(with_reducible first|exact HB.out|apply below_alloc|apply pw_below_drewN|apply below_drew1)|exact HB.out)) hb);clear HB;have HB:=n0_;clear n0_;(try clear hb);(try clear hb2);(try clear hk);(try clear hi))|((with_reducible refine gate_callee (f:=23) rfl ?_);refine goesL_ (some 23) rfl rfl Tryd.func23 (by kernel_rfl) rfl #[.string (⟨#[49,48,48,48,48,48,48,48,48,55]⟩:ByteArray),.string (⟨#[49,48]⟩:ByteArray)] rfl (by (try simp only [List.map_toArray,List.map_cons,List.map_nil]);first|done|rfl|(simp only [List.length_drop,List.length_take];rfl)) ?_;(with_reducible refine (natural_DivMod.calls k (⟨#[49,48,48,48,48,48,48,48,48,55]⟩:ByteArray) (⟨#[49,48]⟩:ByteArray) t264 t265 t266 _ ?side1 A2.out).mono ?_);(case side1=>exact HLW.out.below (by repeat (first|(with_reducible first|exact HB.out|apply below_alloc|apply pw_below_drewN|apply below_drew1)|exact HB.out)));rintro e w121 ⟨rfl,hb⟩;refine ⟨_,rfl,?_⟩;have n0_:=Aside0.mk (below_step (by repeat (first|(with_reducible first|exact HB.out|apply below_alloc|apply pw_below_drewN|apply below_drew1)|exact HB.out)) hb);clear HB;have HB:=n0_;clear n0_;(try clear hb);(try clear hb2);(try clear hk);(try clear hi))|((with_reducible refine gate_callee (f:=25) rfl ?_);refine goesL_ (some 28) rfl rfl Tryd.func25 (by kernel_rfl) rfl #[.string (⟨#[56,52]⟩:ByteArray),.string (⟨#[51,54]⟩:ByteArray)] rfl (by (try simp only [List.map_toArray,List.map_cons,List.map_nil]);first|done|rfl|(simp only [List.length_drop,List.length_take];rfl)) ?_;(with_reducible refine (natural_GCD.calls (⟨#[56,52]⟩:ByteArray) (⟨#[51,54]⟩:ByteArray) t267 t268 _ ?side1 A3.out).mono ?_);(case side1=>exact HLW.out.below (by repeat (first|(with_reducible first|exact HB.out|apply below_alloc|apply pw_below_drewN|apply below_drew1)|exact HB.out)));rintro e w122 ⟨rfl,hb⟩;refine ⟨_,rfl,?_⟩;have n0_:=Aside0.mk (below_step (by repeat (first|(with_reducible first|exact HB.out|apply below_alloc|apply pw_below_drewN|apply below_drew1)|exact HB.out)) hb);clear HB;have HB:=n0_;clear n0_;(try clear hb);(try clear hb2);(try clear hk);(try clear hi))|((with_reducible refine gate_callee (f:=27) rfl ?_);refine goesL_ (some 32) rfl rfl Tryd.func27 (by kernel_rfl) rfl #[.string (⟨#[57,57]⟩:ByteArray)] rfl (by (try simp only [List.map_toArray,List.map_cons,List.map_nil]);first|done|rfl|(simp only [List.length_drop,List.length_take];rfl)) ?_;(with_reducible refine (natural_Root.calls k (⟨#[57,57]⟩:ByteArray) t269 t270 _ ?side1 A4.out).mono ?_);(case side1=>exact HLW.out.below (by repeat (first|(with_reducible first|exact HB.out|apply below_alloc|apply pw_below_drewN|apply below_drew1)|exact HB.out)));rintro e w123 ⟨rfl,hb⟩;refine ⟨_,rfl,?_⟩;have n0_:=Aside0.mk (below_step (by repeat (first|(with_reducible first|exact HB.out|apply below_alloc|apply pw_below_drewN|apply below_drew1)|exact HB.out)) hb);clear HB;have HB:=n0_;clear n0_;(try clear hb);(try clear hb2);(try clear hk);(try clear hi))|((with_reducible refine gate_callee (f:=29) rfl ?_);refine goesL_ (some 36) rfl rfl Tryd.func29 (by kernel_rfl) rfl #[.string (⟨#[49,48]⟩:ByteArray),.int .i64 20] rfl (by (try simp only [List.map_toArray,List.map_cons,List.map_nil]);first|done|rfl|(simp only [List.length_drop,List.length_take];rfl)) ?_;(with_reducible refine (natural_Pow.calls k (⟨#[49,48]⟩:ByteArray) 20 t271 t272 _ ?side1 A5.out).mono ?_);(case side1=>exact HLW.out.below (by repeat (first|(with_reducible first|exact HB.out|apply below_alloc|apply pw_below_drewN|apply below_drew1)|exact HB.out)));rintro e w124 ⟨rfl,hb⟩;refine ⟨_,rfl,?_⟩;have n0_:=Aside0.mk (below_step (by repeat (first|(with_reducible first|exact HB.out|apply below_alloc|apply pw_below_drewN|apply below_drew1)|exact HB.out)) hb);clear HB;have HB:=n0_;clear n0_;(try clear hb);(try clear hb2);(try clear hk);(try clear hi))|((with_reducible refine gate_callee (f:=21) rfl ?_);refine goesL_ (some 40) rfl rfl Tryd.func21 (by kernel_rfl) rfl #[.string (⟨#[57,57,57,57,57]⟩:ByteArray),.string (⟨#[57,57,57,57,57]⟩:ByteArray)] rfl (by (try simp only [List.map_toArray,List.map_cons,List.map_nil]);first|done|rfl|(simp only [List.length_drop,List.length_take];rfl)) ?_;(with_reducible refine (natural_Mul.calls (⟨#[57,57,57,57,57]⟩:ByteArray) (⟨#[57,57,57,57,57]⟩:ByteArray) t273 t274 _ ?side1 A6.out).mono ?_);(case side1=>exact HLW.out.below (by repeat (first|(with_reducible first|exact HB.out|apply below_alloc|apply pw_below_drewN|apply below_drew1)|exact HB.out)));rintro e w125 ⟨rfl,hb⟩;refine ⟨_,rfl,?_⟩;have n0_:=Aside0.mk (below_step (by repeat (first|(with_reducible first|exact HB.out|apply below_alloc|apply pw_below_drewN|apply below_drew1)|exact HB.out)) hb);clear HB;have HB:=n0_;clear n0_;(try clear hb);(try clear hb2);(try clear hk);(try clear hi))|((with_reducible refine gate_callee (f:=19) rfl ?_);refine goesL_ (some 44) rfl rfl Tryd.func19 (by kernel_rfl) rfl #[.string (⟨#[49,48,48,48]⟩:ByteArray),.string (⟨#[49]⟩:ByteArray)] rfl (by (try simp only [List.map_toArray,List.map_cons,List.map_nil]);first|done|rfl|(simp only [List.length_drop,List.length_take];rfl)) ?_;(with_reducible refine (natural_Sub.calls (⟨#[49,48,48,48]⟩:ByteArray) (⟨#[49]⟩:ByteArray) t275 t276 _ ?side1 A7.out).mono ?_);(case side1=>exact HLW.out.below (by repeat (first|(with_reducible first|exact HB.out|apply below_alloc|apply pw_below_drewN|apply below_drew1)|exact HB.out)));rintro e w126 ⟨rfl,hb⟩;refine ⟨_,rfl,?_⟩;have n0_:=Aside0.mk (below_step (by repeat (first|(with_reducible first|exact HB.out|apply below_alloc|apply pw_below_drewN|apply below_drew1)|exact HB.out)) hb);clear HB;have HB:=n0_;clear n0_;(try clear hb);(try clear hb2);(try clear hk);(try clear hi))|((with_reducible refine gate_callee (f:=13) rfl ?_);refine goesL_ (some 48) rfl rfl Tryd.func13 (by kernel_rfl) rfl #[.string (⟨#[49,48]⟩:ByteArray),.string (⟨#[57]⟩:ByteArray)] rfl (by (try simp only [List.map_toArray,List.map_cons,List.map_nil]);first|done|rfl|(simp only [List.length_drop,List.length_take];rfl)) ?_;(with_reducible refine (natural_Compare.calls k (⟨#[49,48]⟩:ByteArray) (⟨#[57]⟩:ByteArray) t277 t278 _ A8.out).mono ?_);rintro e w127 ⟨rfl,hb⟩;refine ⟨_,rfl,?_⟩;have n0_:=Aside0.mk (below_step (by repeat (first|(with_reducible first|exact HB.out|apply below_alloc|apply pw_below_drewN|apply below_drew1)|exact HB.out)) hb);clear HB;have HB:=n0_;clear n0_;(try clear hb);(try clear hb2);(try clear hk);(try clear hi)))
  go_ret
  exact ⟨by first|rfl|(simp [errW_none,errW_some]<;>rfl)|(simp [*,errW_none,errW_some]<;>rfl),by repeat (first|(with_reducible first|exact HB.out|apply below_alloc|apply pw_below_drewN|apply below_drew1)|exact HB.out)⟩
end Go.Proofs.YtaopmkcghancmaaDoor.Pr
namespace Go.Proofs.YtaopmkcghancmaaDoor.Pr
open Go.RowKit Go.Proofs.YtaopmkcghancmaaDoorW.PrintWords Go.Proofs.YtaopmkcghancmaaDoorW.PrintLast Go.Proofs.YtaopmkcghancmaaDoorW.PrintMore
attribute [local go_sem] max2_int min2_int max_two min_two max_three min_three max_four min_four
set_option linter.unusedVariables false
set_option linter.unusedSimpArgs false
def garboardlaw01_long.l0:Nat→List ByteArray→Int→Int→Option (Bool)
 | 0,_,_,_=>none
 | k + 1,x5,x6,x7=>if x7 < x6 then (if 0≤x7 then (if x7 < (x5.length:Int) then (if ((rdOf ByteArray.empty x5 x7).size:Int) > 120 then (some true) else (garboardlaw01_long.l0 k x5 x6 (wrap64 (x7 + 1)))) else (none)) else (none)) else (some false)
def garboardlaw01_long.f (k:Nat) (l0:List ByteArray):Option (Bool):=garboardlaw01_long.l0 k l0 (l0.length:Int) 0
set_option maxHeartbeats 8000000 in
set_option maxRecDepth 100000 in
theorem garboardlaw01_long.calls (k:Nat) (A0:Option Addr) (c0:Nat) (l0:List ByteArray) (r:Bool) (w:World) (hr0:Kd.C Kd.string w A0 l0.length l0) (hc0:l0.length≤c0) (h:garboardlaw01_long.f k l0 = some r) :
  Calls Tryd.prog 12 #[.slice A0 l0.length c0] w fun e w'=>e = .returned (.bool r)∧Drawn0 w w':=by
 have HR0:=Aside0.mk hr0
 have HC0:=Aside0.mk hc0
 clear hr0 hc0
 have H:(garboardlaw01_long.l0 k l0 (l0.length:Int) 0) = some r:=h
 clear h
 have H':=Aside0.mk H
 clear H
 go_enter Tryd.func12,Tryd.ntmps12
 go_wp2
 go_loopg [7] k (fun kq v7 w'=>∃ (x7_1:Int),v7 = .int .i64 x7_1∧Aside0 (garboardlaw01_long.l0 kq l0 (l0.length:Int) x7_1 = some r)∧Aside0 (kq≤k)∧Drawn0 w w')
 case atStart=>exact ⟨(0),(by first|rfl|(simp;done)|(simp [*];done)),H',⟨Nat.le_refl _⟩,by repeat (first|exact Drawn0.refl _|apply Drawn0.step)⟩
 case round =>
  clear H'
  try clear c1
  obtain ⟨x7_1,rfl,HA,HK1,⟨m1,rfl⟩⟩:=hrel
  cases gk with
  | zero=>exact absurd HA.out (by simp [garboardlaw01_long.l0])
  | succ k1 =>
   have H:=HA.out
   clear HA
   simp only [garboardlaw01_long.l0] at H
   by_cases c2:x7_1 < (l0.length:Int)
   ·rw [if_pos c2] at H
    have c2b0:decide (x7_1 < (l0.length:Int)) = true:=decide_eq_true c2
    clear c2
    by_cases c3:0≤x7_1
    ·rw [if_pos c3] at H
     have c3b0:decide (0≤x7_1) = true:=decide_eq_true c3
     clear c3
     by_cases c4:x7_1 < (l0.length:Int)
     ·rw [if_pos c4] at H
      have c4b0:decide (x7_1 < (l0.length:Int)) = true:=decide_eq_true c4
      clear c4
      by_cases c5:((rdOf ByteArray.empty l0 x7_1).size:Int) > 120
      ·rw [if_pos c5] at H
       have c5b0:decide (120 < ((rdOf ByteArray.empty l0 x7_1).size:Int)) = true:=decide_eq_true c5
       have c5b1:decide (120 < (rdOf ByteArray.empty l0 x7_1).size) = true:=decide_eq_true (by omega)
       clear c5
       obtain rfl:=Option.some.inj H
       have p282:0≤(x7_1:Int):=of_decide_eq_true (by first|(with_reducible assumption)|assumption)
       have q282:x7_1 < (l0.length:Int):=of_decide_eq_true (by first|(with_reducible assumption)|assumption)
       obtain ⟨ad282,e282,hx282_0⟩:=Kd.at_string HR0.out x7_1 p282 q282
       cases e282
       replace p282:=eq_true p282
       replace q282:=eq_true q282
       go_wp2
       go_ret
       exact ⟨by first|rfl|(simp;done)|(simp [*];done),by repeat (first|exact Drawn0.refl _|apply Drawn0.step)⟩
      ·rw [if_neg c5] at H
       have c5b0:decide (120 < ((rdOf ByteArray.empty l0 x7_1).size:Int)) = false:=decide_eq_false c5
       have c5b1:decide (120 < (rdOf ByteArray.empty l0 x7_1).size) = false:=decide_eq_false (by omega)
       clear c5
       have H':=Aside0.mk H
       clear H
       have p282:0≤(x7_1:Int):=of_decide_eq_true (by first|(with_reducible assumption)|assumption)
       have q282:x7_1 < (l0.length:Int):=of_decide_eq_true (by first|(with_reducible assumption)|assumption)
       obtain ⟨ad282,e282,hx282_0⟩:=Kd.at_string HR0.out x7_1 p282 q282
       cases e282
       replace p282:=eq_true p282
       replace q282:=eq_true q282
       go_wp2
       go_roundg k1
       case measure=>have:=HK1.out;omega
       case rel=>exact ⟨(wrap64 (x7_1 + 1)),(by first|rfl|(simp;done)|(simp [*];done)),H',⟨by have:=HK1.out;omega⟩,by repeat (first|exact Drawn0.refl _|apply Drawn0.step)⟩
     ·rw [if_neg c4] at H
      exact absurd H (by simp)
    ·rw [if_neg c3] at H
     exact absurd H (by simp)
   ·rw [if_neg c2] at H
    have c2b0:decide (x7_1 < (l0.length:Int)) = false:=decide_eq_false c2
    clear c2
    obtain rfl:=Option.some.inj H
    go_wp2
    go_ret
    exact ⟨by first|rfl|(simp;done)|(simp [*];done),by repeat (first|exact Drawn0.refl _|apply Drawn0.step)⟩
end Go.Proofs.YtaopmkcghancmaaDoor.Pr
set_option linter.unusedVariables false
set_option linter.unusedSimpArgs false
namespace Go.Proofs.YtaopmkcghancmaaDoor.Pr
open Go.RowKit Go.Lib Go.Proofs.YtaopmkcghancmaaDoorW.PrintWords Go.Proofs.YtaopmkcghancmaaDoorW.PrintLast Go.Proofs.YtaopmkcghancmaaDoorW.PrintMore Go.Proofs.YtaopmkcghancmaaDoor.NatTh
theorem bs_num (n:Nat):bs (num n) = decDigits n:=rfl
theorem num_list (n:Nat) (L:List UInt8) (h:nv ⟨L.toArray⟩ = true) (hn:pv L = n):(num n).toList = L:=by
 have h1:Nml L:=(nv_iff ⟨L.toArray⟩).1 h
 rw [toL,bs_num,← hn,dec_pv L h1]
theorem sh_of (a:ByteArray) (h:decide (a.size≤274877906944) = true):Sh a:=(of_decide_eq_true h:a.size≤274877906944)
theorem sm_of (a:ByteArray) (h:decide (a.size≤1000) = true):Sm a:=(of_decide_eq_true h:a.size≤1000)
theorem awake_ev:Ev (fun k=>garboardlaw01_awake.f k) true:=by
 have a1:natural_Add.f ⟨#[49,48,48,48,48,48,48,48,48,48,48,48,48,48,48,48,48,48,48,48,48]⟩ ⟨#[49]⟩ = some (num 100000000000000000001,0):=by
  unfold natural_Add.f addV
  rw [if_pos (by decide +kernel),if_pos (by decide +kernel),show nat ⟨#[49,48,48,48,48,48,48,48,48,48,48,48,48,48,48,48,48,48,48,48,48]⟩ + nat ⟨#[49]⟩ = 100000000000000000001 by decide +kernel]
 have a2:=DivMod_ev ⟨#[49,48,48,48,48,48,48,48,48,55]⟩ ⟨#[49,48]⟩ (sh_of _ (by decide +kernel)) (sh_of _ (by decide +kernel))
 have e2:divV ⟨#[49,48,48,48,48,48,48,48,48,55]⟩ ⟨#[49,48]⟩ = (num 100000000,num 7,0):=by
  unfold divV
  rw [if_pos (by decide +kernel),if_neg (by decide +kernel),show nat ⟨#[49,48,48,48,48,48,48,48,48,55]⟩ / nat ⟨#[49,48]⟩ = 100000000 by decide +kernel,show nat ⟨#[49,48,48,48,48,48,48,48,48,55]⟩ % nat ⟨#[49,48]⟩ = 7 by decide +kernel]
 rw [e2] at a2
 have a3:natural_GCD.f ⟨#[56,52]⟩ ⟨#[51,54]⟩ = some (num 12,0):=by
  unfold natural_GCD.f gcdV
  rw [if_pos (by decide +kernel),if_pos (by decide +kernel),show Nat.gcd (nat ⟨#[56,52]⟩) (nat ⟨#[51,54]⟩) = 12 by decide +kernel]
 have a4:=Root_ev ⟨#[57,57]⟩ (sm_of _ (by decide +kernel))
 have e4:rootV ⟨#[57,57]⟩ = (num 9,0):=by
  unfold rootV
  rw [if_pos (by decide +kernel),show nat ⟨#[57,57]⟩ = 99 by decide +kernel,(rt_spec 99).uniq (t:=9) (by unfold IsRoot;omega)]
 rw [e4] at a4
 have a5:=Pow_ev ⟨#[49,48]⟩ 20 (sm_of _ (by decide +kernel))
 have e5:powV ⟨#[49,48]⟩ 20 = (num 100000000000000000000,0):=by
  unfold powV
  rw [if_pos (by decide +kernel),if_neg (by decide +kernel),if_neg (by decide +kernel),show nat ⟨#[49,48]⟩ ^ Int.toNat 20 = 100000000000000000000 by decide +kernel]
 rw [e5] at a5
 have a6:natural_Mul.f ⟨#[57,57,57,57,57]⟩ ⟨#[57,57,57,57,57]⟩ = some (num 9999800001,0):=by
  unfold natural_Mul.f mulV
  rw [if_pos (by decide +kernel),if_pos (by decide +kernel),show nat ⟨#[57,57,57,57,57]⟩ * nat ⟨#[57,57,57,57,57]⟩ = 9999800001 by decide +kernel]
 have a7:natural_Sub.f ⟨#[49,48,48,48]⟩ ⟨#[49]⟩ = some (num 999,0):=by
  unfold natural_Sub.f subV
  rw [if_pos (by decide +kernel),if_pos (by decide +kernel),if_neg (by decide +kernel),show nat ⟨#[49,48,48,48]⟩ - nat ⟨#[49]⟩ = 999 by decide +kernel]
 have a8:=Compare_ev ⟨#[49,48]⟩ ⟨#[57]⟩ (sh_of _ (by decide +kernel)) (sh_of _ (by decide +kernel))
 have e8:cmpSV ⟨#[49,48]⟩ ⟨#[57]⟩ = (1,0):=by
  unfold cmpSV
  rw [if_pos (by decide +kernel),show nat ⟨#[49,48]⟩ = 10 by decide +kernel,show nat ⟨#[57]⟩ = 9 by decide +kernel]
  rfl
 rw [e8] at a8
 have v1:=Valid_ev ⟨#[48,48,55]⟩ (by decide +kernel)
 have v2:=Valid_ev ⟨#[]⟩ (by decide +kernel)
 have v3:=Valid_ev ⟨#[48]⟩ (by decide +kernel)
 rw [show nv ⟨#[48,48,55]⟩ = false by decide +kernel] at v1
 rw [show nv ⟨#[]⟩ = false by decide +kernel] at v2
 rw [show nv ⟨#[48]⟩ = true by decide +kernel] at v3
 have fin:Ev (fun k=>(natural_Valid.f k (⟨#[48,48,55]⟩:ByteArray)).bind fun t279=>(if t279 = true then (some false) else ((natural_Valid.f k (⟨#[]⟩:ByteArray)).bind fun t280=>(if t280 = true then (some false) else ((natural_Valid.f k (⟨#[48]⟩:ByteArray)).bind fun t281=>(some t281)))))) true :=
  Ev.bind v1 (Ev.congr (fun k=>if_neg (by simp)) (Ev.bind v2 (Ev.congr (fun k=>if_neg (by simp)) (Ev.bind v3 (Ev.now _)))))
 unfold garboardlaw01_awake.f
 rw [a1]
 refine Ev.congr (fun k=>Option.bind_some _ _) (Ev.bind a2 ?_)
 rw [a3]
 refine Ev.congr (fun k=>Option.bind_some _ _) (Ev.bind a4 (Ev.bind a5 ?_))
 rw [a6]
 refine Ev.congr (fun k=>Option.bind_some _ _) ?_
 rw [a7]
 refine Ev.congr (fun k=>Option.bind_some _ _) (Ev.bind a8 ?_)
 refine Ev.congr (fun k=>?_) fin
 dsimp only
 rw [if_pos (by decide +kernel),if_pos (num_list _ _ (by decide +kernel) (by decide +kernel)),if_pos (num_list _ _ (by decide +kernel) (by decide +kernel)),if_pos (num_list _ _ (by decide +kernel) (by decide +kernel)),if_pos (num_list _ _ (by decide +kernel) (by decide +kernel)),if_pos (num_list _ _ (by decide +kernel) (by decide +kernel)),if_pos (num_list _ _ (by decide +kernel) (by decide +kernel)),if_pos (num_list _ _ (by decide +kernel) (by decide +kernel)),if_pos (num_list _ _ (by decide +kernel) (by decide +kernel)),if_pos rfl]
theorem long_loop (l:List ByteArray) (hs:l.length < 1000):∀ (m n:Nat),n + m = l.length→∀ k,garboardlaw01_long.l0 (k + 1 + m) l l.length n = some ((l.drop n).any fun s=>decide (120 < s.size)):=by
 intro m
 induction m with
 | zero =>
  intro n hn k
  show garboardlaw01_long.l0 (k + 1) l l.length n = _
  unfold garboardlaw01_long.l0
  rw [if_neg (by omega),List.drop_of_length_le (by omega)]
  rfl
 | succ m ih =>
  intro n hn k
  have hnl:n < l.length:=by omega
  rw [List.drop_eq_getElem_cons hnl,List.any_cons,show k + 1 + (m + 1) = k + 1 + m + 1 by omega]
  unfold garboardlaw01_long.l0
  rw [if_pos (by omega),if_pos (by omega),if_pos (by omega),wi1 n (by omega),ih (n + 1) (by omega) k]
  have e:∀ d,rdOf d l (n:Int) = l[n]:=fun d=>by
   unfold rdOf
   rw [Int.toNat_natCast,List.getD_eq_getElem?_getD,List.getElem?_eq_getElem hnl]
   rfl
  rw [e]
  by_cases h:(l[n].size:Int) > 120
  ·rw [if_pos h,decide_eq_true (by omega)]
   rfl
  ·rw [if_neg h,decide_eq_false (by omega)]
   rfl
theorem long_ev (l:List ByteArray) (hs:l.length < 1000):Ev (fun k=>garboardlaw01_long.f k l) (l.any fun s=>decide (120 < s.size)):=by
 refine ⟨l.length + 1,fun k hk=>?_⟩
 obtain ⟨k,rfl⟩:∃ j,k = j + 1 + l.length:=⟨k - 1 - l.length,by omega⟩
 simp only [garboardlaw01_long.f]
 have h:=long_loop l hs l.length 0 (by omega) k
 rw [List.drop_zero] at h
 exact h
end Go.Proofs.YtaopmkcghancmaaDoor.Pr
set_option linter.unusedVariables false
set_option linter.unusedSimpArgs false
namespace Go.Proofs.YtaopmkcghancmaaDoor.Pr
open Go.RowKit Go.Lib Go.Proofs.YtaopmkcghancmaaDoorW.PrintWords Go.Proofs.YtaopmkcghancmaaDoorW.PrintLast Go.Proofs.YtaopmkcghancmaaDoorW.PrintMore Go.Proofs.YtaopmkcghancmaaDoor.NatTh
theorem law_head (l:List ByteArray) (hl:l.length < 1000) (j:Nat→Bool→Option Bool) (f:Nat→Option Bool) (hf:∀ k,f k = (garboardlaw01_awake.f k).bind fun t=>(if t = true then ((garboardlaw01_long.f k l).bind fun t2=>j k t2) else j k true))
  (hj:∀ k,j (k + 1) true = (garboardlaw01_awake.f k).bind fun t=>some t) (h:(∀ s ∈ l,s.size≤120)→Ev (fun k=>j k false) true):Ev f true:=by
 refine Ev.congr hf (Ev.bind awake_ev (Ev.congr (fun k=>if_pos rfl) (Ev.bind (long_ev l hl) ?_)))
 cases hb:(l.any fun s=>decide (120 < s.size)) with
 | true=>exact Ev.step hj (Ev.bind awake_ev (Ev.now _))
 | false =>
  refine h (fun s hs=>?_)
  have:=List.any_eq_false.1 hb s hs
  simpa using this
end Go.Proofs.YtaopmkcghancmaaDoor.Pr
