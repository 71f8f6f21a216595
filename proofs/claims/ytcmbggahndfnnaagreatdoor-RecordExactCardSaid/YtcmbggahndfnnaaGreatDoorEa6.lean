/- Part 6 of 6: walks and laws of functions that the last part joins. The words of the print (W..) are the kit's, cut down by program to what is used here. -/
import Derived.SevenTiedAt
import Derived.Test.YtcmbggahndfnnaaGreatDoorEa5
namespace Go.Proofs.YtcmbggahndfnnaaGreatDoor.Pr
set_option linter.unusedVariables false
set_option linter.unusedSimpArgs false
open Go.RowKit Go.Shelf Go.Lib Go.Proofs.YtcmbggahndfnnaaGreatDoorW.PrintWords Go.Proofs.YtcmbggahndfnnaaGreatDoorW.PrintLast Go.Proofs.YtcmbggahndfnnaaGreatDoorW.PrintMore
attribute [local go_sem] max2_int min2_int max_two min_two max_three min_three max_four min_four
def encE (k:Nat) (x:S26):Option (ByteArray × Int):=record_Encode.f k x.f0 x.f1 x.f2 x.f3 x.f4 x.f5
def writeG (k:Nat):List UInt8→List S52→Option (List UInt8)
 | acc,[]=>some acc
 | acc,x :: l=>(encE k x.f0).bind fun t=>(record_strs.f k [t.1]).bind fun u=>if acc.length + (u.size + x.f1.size)≤mostB then writeG k (acc ++ (u ++ x.f1).data.toList) l else none
def record_Write.f (k:Nat) (l:List S52):Option (ByteArray × Int) :=
 (record_Check.f k l).bind fun t=>if t.2 = 0 then (if l.length≤mostB then (writeG k [] l).bind fun L=>some (⟨L.toArray⟩,0) else none) else some ((⟨#[]⟩:ByteArray),1)
theorem writeG_mono (k:Nat):∀ acc l,LeO (writeG k acc l) (writeG (k + 1) acc l)
 | acc,[]=>LeO.refl _
 | acc,x :: l=>by
  unfold writeG
  exact LeO.bind (record_Encode.mono _ _ _ _ _ _ _) fun _=>LeO.bind (record_strs.mono _ _) fun _=>LeO.ite (writeG_mono k _ l) (LeO.refl _)
theorem record_Write.mono:∀ l k,LeO (record_Write.f k l) (record_Write.f (k + 1) l):=fun l k =>
 LeO.bind (record_Check.mono _ _) fun _=>LeO.ite (LeO.ite (LeO.bind (writeG_mono k _ l) fun _=>LeO.refl _) (LeO.refl _)) (LeO.refl _)
theorem rd52_drop (l:List S52) (i:Nat) (h:i < l.length):l.drop i = rd_T52 l (i:Int) :: l.drop (i + 1):=by
 rw [List.drop_eq_getElem_cons h]
 congr 1
 simp [rd_T52,h]
set_option maxHeartbeats 8000000
set_option maxRecDepth 100000
theorem record_Write.calls (k:Nat) (A0:Option Addr) (c0:Nat) (l0:List S52) (r1:ByteArray) (r2:Int) (w:World) (hr0:Kd.C k52 w A0 l0.length l0) (hc0:l0.length≤c0) (hL:LaidW w) (h:record_Write.f k l0 = some (r1,r2)) :
  Calls Tryz.prog 19 #[.slice A0 l0.length c0] w fun e w'=>e = .returned (.tuple #[.string r1,.int .i64 r2])∧Below w.heap.size w w':=by
 have hu52:=Tryz.underlying52
 have HR:=Aside0.mk hr0
 have HLW:=Aside0.mk hL
 unfold record_Write.f at h
 obtain ⟨⟨t1,t2⟩,A1,h⟩:=bn_ h
 have hck:=record_Check.calls k A0 c0 l0 t1 t2 w hr0 hc0 hL A1.out
 dsimp only at h
 clear hr0 hc0 hL A1
 by_cases h2:t2 = 0
 case neg =>
  rw [if_neg h2] at h
  obtain ⟨rfl,rfl⟩:=(by simpa using h:_∧_)
  have hb0:(t2 == 0) = false:=beq_eq_false_iff_ne.2 h2
  have hb1:(t2 != 0) = true:=bne_iff_ne.2 h2
  clear h h2
  go_enter Tryz.func19,Tryz.ntmps19
  go_wp2_with (go_at_call 27;refine hck.mono ?_;rintro e w' ⟨rfl,hb⟩;have HB:=Aside0.mk hb;clear hb)
  go_ret2
  exact ⟨rfl,HB.out⟩
 rw [if_pos h2] at h
 subst h2
 by_cases hlen:l0.length≤mostB
 case neg=>rw [if_neg hlen] at h;cases h
 rw [if_pos hlen] at h
 obtain ⟨L,HL,h⟩:=bn_ h
 obtain ⟨rfl,rfl⟩:=(by simpa using h:_∧_)
 have HLN:=Aside0.mk hlen
 clear h hlen
 go_enter Tryz.func19,Tryz.ntmps19
 go_wp2_with (go_at_call 27;refine hck.mono ?_;rintro e w1 ⟨rfl,hb⟩;have HB:=Aside0.mk hb;clear hb)
 have HBd:=Aside0.mk (Bld.new HB.out)
 clear hck
 generalize w1.alloc (.cells #[.pointer none,.slice none 0 0] 73) = W8 at HBd ⊢
 generalize w1.heap.size = b at HBd ⊢
 clear HB
 go_loopw [20] (fun v20 w'=>∃ (i:Nat) (acc:List UInt8),v20 = .int .i64 (i:Int)∧i≤l0.length∧Aside0 (writeG k acc (l0.drop i) = some L)∧Aside0 (Bld w w' b acc)) (fun v20 _=>l0.length - (RowKit.intOf v20).toNat)
 case atStart=>exact ⟨0,[],rfl,Nat.zero_le _,HL,HBd⟩
 case round =>
  clear HBd
  obtain ⟨i,acc,rfl,hi,HS,HBd⟩:=hrel
  by_cases hlt:i < l0.length
  ·have HW:=Aside0.mk (wrap_succ hlt HLN.out)
   have hs:=HS.out
   rw [rd52_drop l0 i hlt,writeG] at hs
   obtain ⟨⟨t,te⟩,C0,hs⟩:=bn_ hs
   obtain ⟨u,C1,hs⟩:=bn_ hs
   by_cases hsz:acc.length + (u.size + (rd_T52 l0 (i:Int)).f1.size)≤mostB
   case neg=>rw [if_neg hsz] at hs;cases hs
   rw [if_pos hsz] at hs
   obtain ⟨ad,A3,c3,A4,c4,A5,c5,e,hx0,hx1,hx2,hx3,hx4,hx5,hx6,hl3,hi3,hl4,hi4,hl5,hi5⟩:=at_T52 HR.out (i:Int) (by omega) (by omega)
   cases e
   have hb0:=HBd.out.below
   replace hx0:=(hb0.cell (World.block_lt_of_cell? w _ hx0)).trans hx0
   replace hx1:=(hb0.cell (World.block_lt_of_cell? w _ hx1)).trans hx1
   replace hx2:=(hb0.cell (World.block_lt_of_cell? w _ hx2)).trans hx2
   replace hx3:=(hb0.cell (World.block_lt_of_cell? w _ hx3)).trans hx3
   replace hx4:=(hb0.cell (World.block_lt_of_cell? w _ hx4)).trans hx4
   replace hx5:=(hb0.cell (World.block_lt_of_cell? w _ hx5)).trans hx5
   replace hx6:=(hb0.cell (World.block_lt_of_cell? w _ hx6)).trans hx6
   simp only [Int.toNat_natCast] at hx0 hx1 hx2 hx3 hx4 hx5 hx6
   clear hb0
   unfold encE at C0
   generalize rd_T52 l0 (i:Int) = x at hx0 hx1 hx2 hx3 hx4 hx5 hx6 hl3 hi3 hl4 hi4 hl5 hi5 C0 hs hsz
   obtain ⟨⟨x0,x1,x2,x3,x4,x5⟩,x6⟩:=x
   dsimp only at hx0 hx1 hx2 hx3 hx4 hx5 hx6 hl3 hi3 hl4 hi4 hl5 hi5 C0 hs hsz
   have HS2:=Aside0.mk hs
   have HSZ:=Aside0.mk hsz
   have HL3:=Aside0.mk hl3
   have HI3:=Aside0.mk hi3
   have HL4:=Aside0.mk hl4
   have HI4:=Aside0.mk hi4
   have HL5:=Aside0.mk hl5
   have HI5:=Aside0.mk hi5
   have HLT:=Aside0.mk hlt
   clear hs hsz hl3 hi3 hl4 hi4 hl5 hi5 HS
   have hd:decide ((i:Int) < (l0.length:Int)) = true:=decide_eq_true (by omega)
   have hd2:decide (i < l0.length) = true:=decide_eq_true hlt
   clear hlt
   have HB:=Aside0.mk (Below.refl wr.heap.size wr)
   go_upto_region 8 with (first|((with_reducible refine gate_dst (N:=8) rfl ?_);refine bv_ #[.int .i64 0,.int .i64 0,.int .i64 0,.slice none 0 0,.slice none 0 0,.slice none 0 0,.string (⟨#[]⟩:ByteArray)] 52 ?_;clear HB;intro gx hg w10 BK GE hb HB;clear hb hg;obtain ⟨hcz0,hcz1,hcz2,hcz3,hcz4,hcz5,hcz6,hfz0,hfz1,hfz2,hfz3,hfz4,hfz5,hfz6⟩:=c7_ BK))
   generalize hw_:(((((((w10.setCell ⟨gx,0,none⟩ (.int .i64 x0)).setCell ⟨gx,1,none⟩ (.int .i64 x1)).setCell ⟨gx,2,none⟩ (.int .i64 x2)).setCell ⟨gx,3,none⟩ (.slice A3 x3.length c3)).setCell ⟨gx,4,none⟩ (.slice A4 x4.length c4)).setCell ⟨gx,5,none⟩ (.slice A5 x5.length c5)).setCell ⟨gx,6,none⟩ (.string x6)) = w12
   replace BK:Aside0 (w12.heap[gx]? = some (.cells #[.int .i64 x0,.int .i64 x1,.int .i64 x2,.slice A3 x3.length c3,.slice A4 x4.length c4,.slice A5 x5.length c5,.string x6] 52 (0,0))):=gk_ hw_
   replace HB:=gb_ hw_
   clear hw_ hcz0 hcz1 hcz2 hcz3 hcz4 hcz5 hcz6 hfz0 hfz1 hfz2 hfz3 hfz4 hfz5 hfz6
   have NE:Aside0 (gx≠b):=⟨fun e=>by have:=HBd.out.lt;have:=GE.out;omega⟩
   replace HBd:=bk_kept HBd HB.out
   clear HB
   obtain ⟨hcz0,hcz1,hcz2,hcz3,hcz4,hcz5,hcz6,hfz0,hfz1,hfz2,hfz3,hfz4,hfz5,hfz6⟩:=c7_ BK
   go_wp2_with fail
   go_at_call 12
   refine (record_Encode.calls k x0 x1 x2 _ _ x3 _ _ x4 _ _ x5 t te _ (Kd.C_below HI3.out HBd.out.below) HL3.out (Kd.C_below HI4.out HBd.out.below) HL4.out (Kd.C_below HI5.out HBd.out.below) HL5.out (HLW.out.below HBd.out.below) C0.out).mono ?_
   rintro e w13 ⟨rfl,hb⟩
   clear hcz0 hcz1 hcz2 hcz3 hcz4 hcz5 hcz6 hfz0 hfz1 hfz2 hfz3 hfz4 hfz5 hfz6
   replace BK:=bb_ BK hb
   replace HBd:=bk_kept HBd hb
   clear hb
   go_upto_region 9 with (fail)
   replace BK:=dr_ BK
   replace HBd:=Aside0.mk HBd.out.drew
   refine start_ (n:=7) (S:=fun w'=>w'.cell? ⟨gx,6,none⟩ = some (.string x6)) (ds:=[]) #[false,false,false,false,false,false,false] kr_ rfl rfl hc_ (fun hHeld=>?_)
   generalize w13.drew = W9 at BK HBd hHeld ⊢
   refine pu_ 0 (some 30) #[true,false,false,false,false,false,false] ?_
   refine pu_ 3 (some 33) #[true,false,false,true,false,false,false] ?_
   refine tk_ 4 (some 34) #[true,false,false,true,true,false,false] hHeld ?_
   refine one_ (i:=1) (N:=some 31) #[true,true,false,true,true,false,false] rfl rfl kr_ (by decide) (fun K hK=>?_)
   refine event_step (v:=.slice (some ⟨W9.heap.size,0,none⟩) 1 1) (w1:=W9.alloc (.cells #[.string t] 9)) rfl (by first|(go_simp;done)|(go_simp;rfl)) ?_
   have hb1:Below W9.heap.size W9 (W9.alloc (.cells #[.string t] 9)):=below_alloc (Below.refl _ _) _
   have HA:=Aside0.mk (C_one W9 t)
   replace BK:=bb_ BK hb1
   replace HBd:=bk_kept HBd hb1
   clear hb1
   generalize W9.alloc (.cells #[.string t] 9) = W10 at BK HBd HA ⊢
   generalize W9.heap.size = gs at HA ⊢
   refine hk_ hK (fun hHeld=>?_);clear hK K
   refine oc_ 2 (some 32) #[true,true,true,true,true,false,false] Tryz.func48 #[.slice (some ⟨gs,0,none⟩) 1 1] (fun K hK=>?_)
   refine (record_strs.calls k _ 1 [t] u _ HA.out (Nat.le_refl _) C1.out).mono ?_
   rintro e w21 ⟨rfl,hb⟩
   refine ⟨_,rfl,?_⟩
   replace BK:=bb_ BK hb
   replace HBd:=bk_kept HBd hb
   clear hb
   refine hk_ hK (fun hHeld=>?_);clear hK K
   have z1:(9223372036854775807 < u.size + x6.size) = False:=eq_false (by have:=HSZ.out;unfold mostB at this;omega)
   refine pu_ 5 (some 35) #[true,true,true,true,true,true,false] ?_
   clear z1
   have hts:acc.length + (u ++ x6).size≤140737488355328:=by have:=HSZ.out;unfold mostB at this;simp only [ByteArray.size_append];exact this
   generalize u ++ x6 = tu at hts HS2 ⊢
   have HTU:=Aside0.mk hts
   clear hts
   refine oc_ 6 (some 36) #[true,true,true,true,true,true,true] Tryz.func45 #[.pointer (some ⟨b,0,none⟩),.string tu] (fun K hK=>?_)
   with_reducible refine (bld_write tu HBd.out HTU.out).mono ?_
   rintro e w22 ⟨rfl,hb,hkp⟩
   refine ⟨_,rfl,?_⟩
   replace BK:=kept_blk BK hkp NE (by decide)
   replace HBd:=Aside0.mk hb
   clear hb hkp
   refine hk_ hK (fun hHeld=>?_);clear hK K
   refine done_ kr_ ?_
   go_wp2
   go_roundw
   case rel=>exact ⟨i + 1,_,by rw [HW.out],by have:=HLT.out;omega,HS2,HBd⟩
   case measure =>
    have:=HLT.out
    rw [HW.out]
    simp only [RowKit.intOf,Int.toNat_natCast]
    omega
   all_goals exact absurd HLT.out (by assumption)
  ·have hd:decide ((i:Int) < (l0.length:Int)) = false:=decide_eq_false (by omega)
   have hs:=HS.out
   rw [List.drop_eq_nil_of_le (by omega),writeG] at hs
   obtain rfl:=Option.some.inj hs
   clear HS hs
   go_wp2_with fail
   go_at_call 49
   refine (bld_string HBd.out).mono ?_
   rintro e w23 ⟨rfl,hb⟩
   have HB:=Aside0.mk hb
   clear hb
   go_wp2
   go_ret2
   exact ⟨rfl,HB.out⟩
end Go.Proofs.YtcmbggahndfnnaaGreatDoor.Pr
namespace Go.Proofs.YtcmbggahndfnnaaGreatDoor.Pr
open Go.RowKit Go.Proofs.YtcmbggahndfnnaaGreatDoorW.PrintWords Go.Proofs.YtcmbggahndfnnaaGreatDoorW.PrintLast Go.Proofs.YtcmbggahndfnnaaGreatDoorW.PrintMore
attribute [local go_sem] max2_int min2_int max_two min_two max_three min_three max_four min_four
set_option linter.unusedVariables false
set_option linter.unusedSimpArgs false
def garboardlaw57_awake.f (k:Nat) :Option (Bool):=(some (([(-1),64]:List Int):List Int)).bind fun y406=>((some (([(⟨#[49,47,50]⟩:ByteArray)]:List ByteArray):List ByteArray)).bind fun y409=>((record_Sum.f (⟨#[97,98,99]⟩:ByteArray)).bind fun t413=>((record_Encode.f k 1 300 2 y406 y409 ([]:List ByteArray)).bind fun bt414=>((record_Append.f k ([]:List (S52)) 1 300 2 y406 y409 ([]:List ByteArray)).bind fun bt416=>((record_Write.f k bt416.1).bind fun bt420=>(if bt420.1.size + 1≤9223372036854775807 then ((record_Recover.f k (bt420.1 ++ (⟨#[120]⟩:ByteArray))).bind fun bt422=>(if (t413.size:Int) = 32 then (if 0≤4 then (if 4≤(t413.size:Int) then (if (t413.extract 0 4).toList = ([186,120,22,191]:List UInt8) then (if 28≤(t413.size:Int) then (if (t413.extract 28 t413.size).toList = ([242,0,21,173]:List UInt8) then (if bt414.2 = 0 then (if bt416.2 = 0 then (if bt420.2 = 0 then (if bt414.1.toList = ([1,172,2,2,2,1,128,1,1,3,49,47,50,0]:List UInt8) then (if (bt416.1.length:Int) = 1 then (if 0 < (bt416.1.length:Int) then (if (((rd_T52 bt416.1 0).f1).size:Int) = 32 then (if bt422.2 = (bt420.1.size:Int) then ((garboardref57_Same.f k bt422.1 bt416.1).bind fun t427=>(if t427 = true then ((record_Events.f k bt416.1).bind fun t428=>(some ((t428.length:Int) == 1))) else (some false))) else (some false)) else (some false)) else (none)) else (some false)) else (some false)) else (some false)) else (some false)) else (some false)) else (some false)) else (none)) else (some false)) else (none)) else (none)) else (some false))) else (none)))))))
theorem garboardlaw57_awake.mono:∀ k,LeO (garboardlaw57_awake.f k ) (garboardlaw57_awake.f (k + 1) ):=by
 intro  k
 unfold garboardlaw57_awake.f
 repeat' first
   | (with_reducible exact garboardref57_Same.mono _ _ _)
   | (with_reducible exact record_Append.mono _ _ _ _ _ _ _ _)
   | (with_reducible exact record_Encode.mono _ _ _ _ _ _ _)
   | (with_reducible exact record_Events.mono _ _)
   | (with_reducible exact record_Recover.mono _ _)
   | (with_reducible exact record_Write.mono _ _)
   | (with_reducible exact LeO.refl _)
   | (with_reducible exact LeO.none _)
   | (with_reducible refine LeO.ite ?_ ?_)
   | (with_reducible refine LeO.bind ?_ (fun _=>?_))
   | exact garboardref57_Same.mono _ _ _
   | exact record_Append.mono _ _ _ _ _ _ _ _
   | exact record_Encode.mono _ _ _ _ _ _ _
   | exact record_Events.mono _ _
   | exact record_Recover.mono _ _
   | exact record_Write.mono _ _
   | exact LeO.none _
   | refine LeO.ite ?_ ?_
   | refine LeO.bind ?_ (fun _=>?_)
end Go.Proofs.YtcmbggahndfnnaaGreatDoor.Pr
namespace Go.Proofs.YtcmbggahndfnnaaGreatDoor.Pr
open Go.RowKit Go.Proofs.YtcmbggahndfnnaaGreatDoorW.PrintWords
set_option maxRecDepth 100000
theorem awake_20:garboardlaw57_awake.f 20 = some true:=by kernel_rfl
theorem rounds_on {α:Type} {g:Nat→Option α} (hm:∀ k,LeO (g k) (g (k + 1))) {a b:Nat} (h:a≤b) {r:α} (hr:g a = some r):g b = some r:=by
 induction h with
 | refl=>exact hr
 | step _ ih=>exact hm _ _ ih
theorem awake_true {k:Nat} {r:Bool} (h:garboardlaw57_awake.f k = some r):r = true:=by
 have h1:=rounds_on (g:=fun k=>garboardlaw57_awake.f k) garboardlaw57_awake.mono (Nat.le_max_left k 20) h
 exact Option.some.inj (h1.symm.trans (rounds_on (g:=fun k=>garboardlaw57_awake.f k) garboardlaw57_awake.mono (Nat.le_max_right k 20) awake_20))
theorem awake_on {k:Nat} (h:20≤k):garboardlaw57_awake.f k = some true:=rounds_on (g:=fun k=>garboardlaw57_awake.f k) garboardlaw57_awake.mono h awake_20
end Go.Proofs.YtcmbggahndfnnaaGreatDoor.Pr
namespace Go.Proofs.YtcmbggahndfnnaaGreatDoor.Pr
open Go.RowKit Go.Proofs.YtcmbggahndfnnaaGreatDoorW.PrintWords Go.Proofs.YtcmbggahndfnnaaGreatDoorW.PrintLast Go.Proofs.YtcmbggahndfnnaaGreatDoorW.PrintMore
attribute [local go_sem] max2_int min2_int max_two min_two max_three min_three max_four min_four
set_option maxHeartbeats 8000000
set_option maxRecDepth 100000
set_option linter.unusedVariables false
set_option linter.unusedSimpArgs false
theorem garboardlaw57_awake.calls (k:Nat)  (r:Bool) (w:World) (hL:LaidW w) (h:garboardlaw57_awake.f k  = some r) :
  Calls Tryz.prog 10 #[] w fun e w'=>e = .returned (.bool r)∧Below w.heap.size w w':=by
 have hu26:=Tryz.underlying26
 have HB:=Aside0.mk (Below.refl w.heap.size w)
 have HLW:=Aside0.mk hL
 clear hL
 have HRT:=Aside0.mk (awake_true h)
 have H:((some (([(-1),64]:List Int):List Int)).bind fun y406=>((some (([(⟨#[49,47,50]⟩:ByteArray)]:List ByteArray):List ByteArray)).bind fun y409=>((record_Sum.f (⟨#[97,98,99]⟩:ByteArray)).bind fun t413=>((record_Encode.f k 1 300 2 y406 y409 ([]:List ByteArray)).bind fun bt414=>((record_Append.f k ([]:List (S52)) 1 300 2 y406 y409 ([]:List ByteArray)).bind fun bt416=>((record_Write.f k bt416.1).bind fun bt420=>(if bt420.1.size + 1≤9223372036854775807 then ((record_Recover.f k (bt420.1 ++ (⟨#[120]⟩:ByteArray))).bind fun bt422=>(if (t413.size:Int) = 32 then (if 0≤4 then (if 4≤(t413.size:Int) then (if (t413.extract 0 4).toList = ([186,120,22,191]:List UInt8) then (if 28≤(t413.size:Int) then (if (t413.extract 28 t413.size).toList = ([242,0,21,173]:List UInt8) then (if bt414.2 = 0 then (if bt416.2 = 0 then (if bt420.2 = 0 then (if bt414.1.toList = ([1,172,2,2,2,1,128,1,1,3,49,47,50,0]:List UInt8) then (if (bt416.1.length:Int) = 1 then (if 0 < (bt416.1.length:Int) then (if (((rd_T52 bt416.1 0).f1).size:Int) = 32 then (if bt422.2 = (bt420.1.size:Int) then ((garboardref57_Same.f k bt422.1 bt416.1).bind fun t427=>(if t427 = true then ((record_Events.f k bt416.1).bind fun t428=>(some ((t428.length:Int) == 1))) else (some false))) else (some false)) else (some false)) else (none)) else (some false)) else (some false)) else (some false)) else (some false)) else (some false)) else (some false)) else (none)) else (some false)) else (none)) else (none)) else (some false))) else (none)))))))) = some r:=h
 clear h
 obtain ⟨y406,hy406⟩:∃ y_:List Int,y_ = (([(-1),64]:List Int)):=⟨_,rfl⟩
 replace H:((some (([(⟨#[49,47,50]⟩:ByteArray)]:List ByteArray):List ByteArray)).bind fun y409=>((record_Sum.f (⟨#[97,98,99]⟩:ByteArray)).bind fun t413=>((record_Encode.f k 1 300 2 y406 y409 ([]:List ByteArray)).bind fun bt414=>((record_Append.f k ([]:List (S52)) 1 300 2 y406 y409 ([]:List ByteArray)).bind fun bt416=>((record_Write.f k bt416.1).bind fun bt420=>(if bt420.1.size + 1≤9223372036854775807 then ((record_Recover.f k (bt420.1 ++ (⟨#[120]⟩:ByteArray))).bind fun bt422=>(if (t413.size:Int) = 32 then (if 0≤4 then (if 4≤(t413.size:Int) then (if (t413.extract 0 4).toList = ([186,120,22,191]:List UInt8) then (if 28≤(t413.size:Int) then (if (t413.extract 28 t413.size).toList = ([242,0,21,173]:List UInt8) then (if bt414.2 = 0 then (if bt416.2 = 0 then (if bt420.2 = 0 then (if bt414.1.toList = ([1,172,2,2,2,1,128,1,1,3,49,47,50,0]:List UInt8) then (if (bt416.1.length:Int) = 1 then (if 0 < (bt416.1.length:Int) then (if (((rd_T52 bt416.1 0).f1).size:Int) = 32 then (if bt422.2 = (bt420.1.size:Int) then ((garboardref57_Same.f k bt422.1 bt416.1).bind fun t427=>(if t427 = true then ((record_Events.f k bt416.1).bind fun t428=>(some ((t428.length:Int) == 1))) else (some false))) else (some false)) else (some false)) else (none)) else (some false)) else (some false)) else (some false)) else (some false)) else (some false)) else (some false)) else (none)) else (some false)) else (none)) else (none)) else (some false))) else (none))))))) = some r:=by first|(rw [hy406];with_reducible exact H)|(have H2_:=(Option.bind_some _ _).symm.trans H;rw [hy406];with_reducible exact H2_)|(have H2_:=(Option.bind_some _ _).symm.trans H;with_reducible exact H2_)|with_reducible exact H|(rw [hy406];exact H)|exact H
 have Ny406:=Aside0.mk hy406
 clear hy406
 obtain ⟨y409,hy409⟩:∃ y_:List ByteArray,y_ = (([(⟨#[49,47,50]⟩:ByteArray)]:List ByteArray)):=⟨_,rfl⟩
 replace H:((record_Sum.f (⟨#[97,98,99]⟩:ByteArray)).bind fun t413=>((record_Encode.f k 1 300 2 y406 y409 ([]:List ByteArray)).bind fun bt414=>((record_Append.f k ([]:List (S52)) 1 300 2 y406 y409 ([]:List ByteArray)).bind fun bt416=>((record_Write.f k bt416.1).bind fun bt420=>(if bt420.1.size + 1≤9223372036854775807 then ((record_Recover.f k (bt420.1 ++ (⟨#[120]⟩:ByteArray))).bind fun bt422=>(if (t413.size:Int) = 32 then (if 0≤4 then (if 4≤(t413.size:Int) then (if (t413.extract 0 4).toList = ([186,120,22,191]:List UInt8) then (if 28≤(t413.size:Int) then (if (t413.extract 28 t413.size).toList = ([242,0,21,173]:List UInt8) then (if bt414.2 = 0 then (if bt416.2 = 0 then (if bt420.2 = 0 then (if bt414.1.toList = ([1,172,2,2,2,1,128,1,1,3,49,47,50,0]:List UInt8) then (if (bt416.1.length:Int) = 1 then (if 0 < (bt416.1.length:Int) then (if (((rd_T52 bt416.1 0).f1).size:Int) = 32 then (if bt422.2 = (bt420.1.size:Int) then ((garboardref57_Same.f k bt422.1 bt416.1).bind fun t427=>(if t427 = true then ((record_Events.f k bt416.1).bind fun t428=>(some ((t428.length:Int) == 1))) else (some false))) else (some false)) else (some false)) else (none)) else (some false)) else (some false)) else (some false)) else (some false)) else (some false)) else (some false)) else (none)) else (some false)) else (none)) else (none)) else (some false))) else (none)))))) = some r:=by first|(rw [hy409];with_reducible exact H)|(have H2_:=(Option.bind_some _ _).symm.trans H;rw [hy409];with_reducible exact H2_)|(have H2_:=(Option.bind_some _ _).symm.trans H;with_reducible exact H2_)|with_reducible exact H|(rw [hy409];exact H)|exact H
 have Ny409:=Aside0.mk hy409
 clear hy409
 obtain ⟨t413,A1,H⟩:=bn_ H
 obtain ⟨⟨t414,t415⟩,A2,H⟩:=bn_ H
 dsimp only at H
 obtain ⟨⟨t416,t419⟩,A3,H⟩:=bn_ H
 dsimp only at H
 obtain ⟨⟨t420,t421⟩,A4,H⟩:=bn_ H
 dsimp only at H
 by_cases c5:t420.size + 1≤9223372036854775807
 ·rw [if_pos c5] at H
  have c5b0:=eq_true c5
  have c5b1:decide (t420.size + 1≤9223372036854775807) = true:=decide_eq_true c5
  try have c5b2:(9223372036854775807 < t420.size + 1) = False:=eq_false (Nat.not_lt.2 c5)
  obtain ⟨⟨t422,t423⟩,A6,H⟩:=bn_ H
  dsimp only at H
  by_cases c7:(t413.size:Int) = 32
  ·rw [if_pos c7] at H
   have c7b0:((t413.size:Int) == 32) = true:=beq_iff_eq.mpr c7
   have c7b1:((t413.size:Int) != 32) = false:=bne_eq_false_iff_eq.mpr c7
   clear c7
   by_cases c8:0≤4
   ·rw [if_pos c8] at H
    have c8b0:=eq_true c8
    have c8b1:decide (0≤4) = true:=decide_eq_true c8
    clear c8
    by_cases c9:4≤(t413.size:Int)
    ·rw [if_pos c9] at H
     have c9b0:=eq_true c9
     have c9b1:decide (4≤(t413.size:Int)) = true:=decide_eq_true c9
     clear c9
     by_cases c10:(t413.extract 0 4).toList = ([186,120,22,191]:List UInt8)
     ·rw [if_pos c10] at H
      have c10b0:((t413.extract 0 4).toList == ([186,120,22,191]:List UInt8)) = true:=beq_iff_eq.mpr c10
      have c10b1:((t413.extract 0 4).toList != ([186,120,22,191]:List UInt8)) = false:=bne_eq_false_iff_eq.mpr c10
      clear c10
      by_cases c11:28≤(t413.size:Int)
      ·rw [if_pos c11] at H
       have c11b0:=eq_true c11
       have c11b1:decide (28≤(t413.size:Int)) = true:=decide_eq_true c11
       clear c11
       by_cases c12:(t413.extract 28 t413.size).toList = ([242,0,21,173]:List UInt8)
       ·rw [if_pos c12] at H
        have c12b0:((t413.extract 28 t413.size).toList == ([242,0,21,173]:List UInt8)) = true:=beq_iff_eq.mpr c12
        have c12b1:((t413.extract 28 t413.size).toList != ([242,0,21,173]:List UInt8)) = false:=bne_eq_false_iff_eq.mpr c12
        clear c12
        by_cases c13:t415 = 0
        ·rw [if_pos c13] at H
         have c13b0:(t415 == 0) = true:=beq_iff_eq.mpr c13
         have c13b1:(t415 != 0) = false:=bne_eq_false_iff_eq.mpr c13
         clear c13
         by_cases c14:t419 = 0
         ·rw [if_pos c14] at H
          have c14b0:(t419 == 0) = true:=beq_iff_eq.mpr c14
          have c14b1:(t419 != 0) = false:=bne_eq_false_iff_eq.mpr c14
          clear c14
          by_cases c15:t421 = 0
          ·rw [if_pos c15] at H
           have c15b0:(t421 == 0) = true:=beq_iff_eq.mpr c15
           have c15b1:(t421 != 0) = false:=bne_eq_false_iff_eq.mpr c15
           clear c15
           by_cases c16:t414.toList = ([1,172,2,2,2,1,128,1,1,3,49,47,50,0]:List UInt8)
           ·rw [if_pos c16] at H
            have c16b0:(t414.toList == ([1,172,2,2,2,1,128,1,1,3,49,47,50,0]:List UInt8)) = true:=beq_iff_eq.mpr c16
            have c16b1:(t414.toList != ([1,172,2,2,2,1,128,1,1,3,49,47,50,0]:List UInt8)) = false:=bne_eq_false_iff_eq.mpr c16
            clear c16
            by_cases c17:(t416.length:Int) = 1
            ·rw [if_pos c17] at H
             have c17b0:((t416.length:Int) == 1) = true:=beq_iff_eq.mpr c17
             have c17b1:((t416.length:Int) != 1) = false:=bne_eq_false_iff_eq.mpr c17
             clear c17
             by_cases c18:0 < (t416.length:Int)
             ·rw [if_pos c18] at H
              have c18b0:decide (0 < (t416.length:Int)) = true:=decide_eq_true c18
              have c18b1:decide (0 < t416.length) = true:=decide_eq_true (by omega)
              clear c18
              by_cases c19:(((rd_T52 t416 0).f1).size:Int) = 32
              ·rw [if_pos c19] at H
               have c19b0:((((rd_T52 t416 0).f1).size:Int) == 32) = true:=beq_iff_eq.mpr c19
               have c19b1:((((rd_T52 t416 0).f1).size:Int) != 32) = false:=bne_eq_false_iff_eq.mpr c19
               clear c19
               by_cases c20:t423 = (t420.size:Int)
               ·rw [if_pos c20] at H
                have c20b0:(t423 == (t420.size:Int)) = true:=beq_iff_eq.mpr c20
                have c20b1:(t423 != (t420.size:Int)) = false:=bne_eq_false_iff_eq.mpr c20
                clear c20
                obtain ⟨t427,A21,H⟩:=bn_ H
                by_cases c22:t427 = true
                ·subst c22
                 have H1:((record_Events.f k t416).bind fun t428=>(some ((t428.length:Int) == 1))) = some r:=by rw [if_pos rfl] at H;exact H
                 clear H
                 have H:=H1
                 clear H1
                 obtain ⟨t428,A23,H⟩:=bn_ H
                 obtain rfl:=Option.some.inj H
                 go_enter Tryz.func10,Tryz.ntmps10
                 go_wp2_with (first|((with_reducible refine gate_dst (N:=11) rfl ?_);(try (refine gate_guard (by rfl) ?_;dsimp only));refine Kd.R_lit (Kd.int .i64) _ 3 ?hg (N:=11) ?hd (xs:=([(-1),64]:List Int)) (inner:=[.int .i64 (-1),.int .i64 64]) (ok:=fun _=>True) (okp:=fun _=>True) ?hr ?hp (fun _ hk=>hk) trivial (Below.refl _ _) (Nat.le_refl _) sm_ ?_;(case hd=>rfl);(case hg=>rfl);(case hr=>first|(go_simp;done)|(go_simp;rfl));(case hp=>exact (Reps.one (show Kd.M (Kd.int .i64) _ _ _ (-1) [.int .i64 (-1)] from rfl) (Reps.one (show Kd.M (Kd.int .i64) _ _ _ 64 [.int .i64 64] from rfl) (Reps.none _ _))));intro v407 w24 ho25 hb hg_ hnew_;clear hg_ hnew_;(first|rw [← Ny406.out] at ho25|(simp only [Int.reduceToNat] at ho25;rw [← Ny406.out] at ho25));have HO408:=Aside0.mk (Kd.R_lower ho25 (below_size bx_));replace HB:=bs_ hb;clear hb ho25)|((with_reducible refine gate_dst (N:=12) rfl ?_);(try (refine gate_guard (by rfl) ?_;dsimp only));refine Kd.R_lit Kd.string _ 65 ?hg (N:=12) ?hd (xs:=([(⟨#[49,47,50]⟩:ByteArray)]:List ByteArray)) (inner:=[.string (⟨#[49,47,50]⟩:ByteArray)]) (ok:=fun _=>True) (okp:=fun _=>True) ?hr ?hp (fun _ hk=>hk) trivial (Below.refl _ _) (Nat.le_refl _) sm_ ?_;(case hd=>rfl);(case hg=>rfl);(case hr=>first|(go_simp;done)|(go_simp;rfl));(case hp=>exact (Reps.one (show Kd.M Kd.string _ _ _ (⟨#[49,47,50]⟩:ByteArray) [.string (⟨#[49,47,50]⟩:ByteArray)] from rfl) (Reps.none _ _)));intro v410 w26 ho27 hb hg_ hnew_;clear hg_ hnew_;(first|rw [← Ny409.out] at ho27|(simp only [Int.reduceToNat] at ho27;rw [← Ny409.out] at ho27));have HO411:=Aside0.mk (Kd.R_lower ho27 (below_size bx_));replace HO408:=rb_ HO408 hb;replace HB:=bs_ hb;clear hb ho27;obtain ⟨Ao28,co28,eo28⟩:=Kd.R_slice HO411.out;subst eo28;obtain ⟨Ao29,co29,eo29⟩:=Kd.R_slice HO408.out;subst eo29)|((with_reducible refine gate_dst (N:=1) rfl ?_);(try (refine gate_guard (by rfl) ?_;dsimp only));refine bv_ #[.int .i64 0,.int .i64 0,.int .i64 0,.slice none 0 0,.slice none 0 0,.slice none 0 0] 26 ?_;clear HB;intro gb412 hg w30 BK412 GE412 hb HB;replace HO408:=rb_ HO408 hb;replace HO411:=rb_ HO411 hb;clear hb hg;obtain ⟨hcz31_0,hcz31_1,hcz31_2,hcz31_3,hcz31_4,hcz31_5,hfz31_0,hfz31_1,hfz31_2,hfz31_3,hfz31_4,hfz31_5⟩:=c6_ BK412)|((with_reducible refine gate_callee (f:=30) rfl ?_);refine gm_ (some 14) Tryz.func30 #[.string (⟨#[97,98,99]⟩:ByteArray)] ?_;(with_reducible refine (record_Sum.calls (⟨#[97,98,99]⟩:ByteArray) t413 _ A1.out).mono ?_);rintro e w32 ⟨rfl,hb⟩;refine ⟨_,rfl,?_⟩;replace HO408:=Aside0.mk (Kd.R_below (by (with_reducible repeat (first|apply Kd.R_alloc|apply Kd.R_drewN|apply Kd.R_drew));exact (Kd.R_mono (Kd.R_far (p:=⟨gb412,5,none⟩) (Kd.R_far (p:=⟨gb412,4,none⟩) (Kd.R_far (p:=⟨gb412,3,none⟩) (Kd.R_far (p:=⟨gb412,2,none⟩) (Kd.R_far (p:=⟨gb412,1,none⟩) (Kd.R_far (p:=⟨gb412,0,none⟩) (Kd.R_types HO408.out BK412.out de_) (fun _ hk=>hk.2) (.int .i64 1)) (fun _ hk=>hk.2) (.int .i64 300)) (fun _ hk=>hk.2) (.int .i64 2)) (fun _ hk=>hk.2) (.slice Ao29 y406.length co29)) (fun _ hk=>hk.2) (.slice Ao28 y409.length co28)) (fun _ hk=>hk.2) (.slice none 0 0)) (fun _ h_=>h_.1))) hb);replace HO411:=Aside0.mk (Kd.R_below (by (with_reducible repeat (first|apply Kd.R_alloc|apply Kd.R_drewN|apply Kd.R_drew));exact (Kd.R_mono (Kd.R_far (p:=⟨gb412,5,none⟩) (Kd.R_far (p:=⟨gb412,4,none⟩) (Kd.R_far (p:=⟨gb412,3,none⟩) (Kd.R_far (p:=⟨gb412,2,none⟩) (Kd.R_far (p:=⟨gb412,1,none⟩) (Kd.R_far (p:=⟨gb412,0,none⟩) (Kd.R_types HO411.out BK412.out de_) (fun _ hk=>hk.2) (.int .i64 1)) (fun _ hk=>hk.2) (.int .i64 300)) (fun _ hk=>hk.2) (.int .i64 2)) (fun _ hk=>hk.2) (.slice Ao29 y406.length co29)) (fun _ hk=>hk.2) (.slice Ao28 y409.length co28)) (fun _ hk=>hk.2) (.slice none 0 0)) (fun _ h_=>h_.1))) hb);replace BK412:=Aside0.mk (blk_below (g:=gb412) (o:=.cells #[.int .i64 1,.int .i64 300,.int .i64 2,.slice Ao29 y406.length co29,.slice Ao28 y409.length co28,.slice none 0 0] 26 (0,0)) bk_ hb);replace HB:=bs_ hb;(try clear hb);obtain ⟨hcz33_0,hcz33_1,hcz33_2,hcz33_3,hcz33_4,hcz33_5,hfz33_0,hfz33_1,hfz33_2,hfz33_3,hfz33_4,hfz33_5⟩:=c6_ BK412)|((with_reducible refine gate_callee (f:=12) rfl ?_);refine gm_ (some 17) Tryz.func12 #[.agg #[.int .i64 1,.int .i64 300,.int .i64 2,.slice Ao29 y406.length co29,.slice Ao28 y409.length co28,.slice none 0 0]] ?_;(refine (record_Encode.calls k 1 300 2 _ _ y406 _ _ y409 _ _ ([]:List ByteArray) t414 t415 _ ?side1 ?side2 ?side3 ?side4 ?side5 ?side6 ?side7 A2.out).mono ?_);(case side1=>exact cx_ ((Kd.R_reads' HO408.out).2.2));(case side2=>exact (Kd.R_reads' HO408.out).2.1);(case side3=>exact cx_ ((Kd.R_reads' HO411.out).2.2));(case side4=>exact (Kd.R_reads' HO411.out).2.1);(case side5=>exact Kd.C_nil _ _);(case side6=>exact Nat.le_refl _);(case side7=>exact HLW.out.below bx_);rintro e w34 ⟨rfl,hb⟩;refine ⟨_,rfl,?_⟩;replace HO408:=rb_ HO408 hb;replace HO411:=rb_ HO411 hb;replace BK412:=bb_ BK412 hb;replace HB:=bs_ hb;(try clear hb);obtain ⟨hcz35_0,hcz35_1,hcz35_2,hcz35_3,hcz35_4,hcz35_5,hfz35_0,hfz35_1,hfz35_2,hfz35_3,hfz35_4,hfz35_5⟩:=c6_ BK412)|((with_reducible refine gate_callee (f:=31) rfl ?_);refine gm_ (some 22) Tryz.func31 #[.slice none 0 0,.agg #[.int .i64 1,.int .i64 300,.int .i64 2,.slice Ao29 y406.length co29,.slice Ao28 y409.length co28,.slice none 0 0]] ?_;(refine (record_Append.calls k _ _ ([]:List (S52)) 1 300 2 _ _ y406 _ _ y409 _ _ ([]:List ByteArray) t416 t419 _ ?side1 ?side2 ?side3 ?side4 ?side5 ?side6 ?side7 ?side8 ?side9 A3.out).mono ?_);(case side1=>exact Kd.C_nil _ _);(case side2=>exact Nat.le_refl _);(case side3=>exact cx_ ((Kd.R_reads' HO408.out).2.2));(case side4=>exact (Kd.R_reads' HO408.out).2.1);(case side5=>exact cx_ ((Kd.R_reads' HO411.out).2.2));(case side6=>exact (Kd.R_reads' HO411.out).2.1);(case side7=>exact Kd.C_nil _ _);(case side8=>exact Nat.le_refl _);(case side9=>exact HLW.out.below bx_);rintro e w36 ⟨v417,rfl,ho0,hb⟩;refine ⟨_,rfl,?_⟩;have HO418:=Aside0.mk (Kd.S_lower (Kd.S_new' (Kd.S_new' ho0 (Kd.R_lt (by (with_reducible repeat (first|apply Kd.R_alloc|apply Kd.R_drewN|apply Kd.R_drew));exact HO408.out))) (Kd.R_lt (by (with_reducible repeat (first|apply Kd.R_alloc|apply Kd.R_drewN|apply Kd.R_drew));exact HO411.out))) (below_size bx_));replace HO408:=rb_ HO408 hb;replace HO411:=rb_ HO411 hb;replace BK412:=bb_ BK412 hb;replace HB:=bs_ hb;(try clear hb);(try clear ho0);obtain ⟨Ao37,co37,eo37⟩:=Kd.S_slice HO418.out;subst eo37)|((with_reducible refine gate_callee (f:=19) rfl ?_);refine gm_ (some 27) Tryz.func19 #[.slice Ao37 t416.length co37] ?_;(with_reducible refine (record_Write.calls k _ _ t416 t420 t421 _ ?side1 ?side2 ?side3 A4.out).mono ?_);(case side1=>exact cx_ ((Kd.S_reads' HO418.out).2.2));(case side2=>exact (Kd.S_reads' HO418.out).2.1);(case side3=>exact HLW.out.below bx_);rintro e w38 ⟨rfl,hb⟩;refine ⟨_,rfl,?_⟩;replace HO408:=rb_ HO408 hb;replace HO411:=rb_ HO411 hb;replace HO418:=Aside0.mk (Kd.S_below (by (with_reducible repeat (first|apply Kd.S_alloc|apply Kd.S_drewN|apply Kd.S_drew));exact HO418.out) hb);replace BK412:=bb_ BK412 hb;replace HB:=bs_ hb;(try clear hb))|((with_reducible refine gate_callee (f:=22) rfl ?_);refine gm_ (some 33) Tryz.func22 #[.string (t420 ++ (⟨#[120]⟩:ByteArray))] ?_;(with_reducible refine (record_Recover.calls k (t420 ++ (⟨#[120]⟩:ByteArray)) t422 t423 _ (HLW.out.below bx_) A6.out).mono ?_);rintro e w39 ⟨v424,rfl,ho0,hb⟩;refine ⟨_,rfl,?_⟩;have HO425:=Aside0.mk (Kd.S_lower (Kd.S_new' (Kd.S_new' (Kd.S_new' ho0 (Kd.R_lt (by (with_reducible repeat (first|apply Kd.R_alloc|apply Kd.R_drewN|apply Kd.R_drew));exact HO408.out))) (Kd.R_lt (by (with_reducible repeat (first|apply Kd.R_alloc|apply Kd.R_drewN|apply Kd.R_drew));exact HO411.out))) (Kd.S_lt (by (with_reducible repeat (first|apply Kd.S_alloc|apply Kd.S_drewN|apply Kd.S_drew));exact HO418.out))) (below_size bx_));replace HO408:=rb_ HO408 hb;replace HO411:=rb_ HO411 hb;replace HO418:=Aside0.mk (Kd.S_elder' (by (with_reducible repeat (first|apply Kd.S_alloc|apply Kd.S_drewN|apply Kd.S_drew));exact HO418.out) (Kd.S_base ho0) hb);replace BK412:=bb_ BK412 hb;replace HB:=bs_ hb;(try clear hb);(try clear ho0);have p426:0≤(0:Int):=(by omega);have q426:0 < (t416.length:Int):=da_;obtain ⟨ad426,A426_3,c426_3,A426_4,c426_4,A426_5,c426_5,e426,hx426_0,hx426_1,hx426_2,hx426_3,hx426_4,hx426_5,hx426_6,hl426_3,hi426_3,hl426_4,hi426_4,hl426_5,hi426_5⟩:=at_T52 (Kd.S_reads' HO418.out).2.2 0 p426 q426;cases e426;obtain ⟨ce426,hce426,hMe426,hcc426⟩:=Kd.S_get HO418.out z52 0 p426 (by first|exact q426|exact of_decide_eq_true (by first|(with_reducible assumption)|assumption)|(have e_:=(Kd.S_reads' HO418.out).1;omega));obtain ⟨ve426_3,ve426_4,ve426_5,rfl,ge426_3,ge426_4,ge426_5⟩:=k52_openM hMe426;have hv426_3:=hcc426 3 _ rfl;rw [add_field _ _ 3 (by omega)] at hv426_3;replace hv426_3:=Option.some.inj (hv426_3.symm.trans hx426_3);rw [hv426_3] at ge426_3;have HL426_3:=Aside0.mk (show Kd.R (Kd.int .i64) 3 _ _ _ _ ((rd_T52 t416 0).f0.f3) from ge426_3);clear hv426_3 ge426_3;have hv426_4:=hcc426 4 _ rfl;rw [add_field _ _ 4 (by omega)] at hv426_4;replace hv426_4:=Option.some.inj (hv426_4.symm.trans hx426_4);rw [hv426_4] at ge426_4;have HL426_4:=Aside0.mk (show Kd.R Kd.string 65 _ _ _ _ ((rd_T52 t416 0).f0.f4) from ge426_4);clear hv426_4 ge426_4;have hv426_5:=hcc426 5 _ rfl;rw [add_field _ _ 5 (by omega)] at hv426_5;replace hv426_5:=Option.some.inj (hv426_5.symm.trans hx426_5);rw [hv426_5] at ge426_5;have HL426_5:=Aside0.mk (show Kd.R Kd.string 9 _ _ _ _ ((rd_T52 t416 0).f0.f5) from ge426_5);clear hv426_5 ge426_5;clear hcc426 hce426;have qi426:(0 < t416.length) = True:=eq_true (by omega);(try rw [show ((0:Int)).toNat = 0 from rfl] at hx426_0);(try rw [show 0 * 7 = 0 from rfl] at hx426_0);(try rw [Addr.add_zero'] at hx426_0);(try rw [show ((0:Int)).toNat = 0 from rfl] at hx426_1);(try rw [show 0 * 7 = 0 from rfl] at hx426_1);(try rw [Addr.add_zero'] at hx426_1);(try rw [show ((0:Int)).toNat = 0 from rfl] at hx426_2);(try rw [show 0 * 7 = 0 from rfl] at hx426_2);(try rw [Addr.add_zero'] at hx426_2);(try rw [show ((0:Int)).toNat = 0 from rfl] at hx426_3);(try rw [show 0 * 7 = 0 from rfl] at hx426_3);(try rw [Addr.add_zero'] at hx426_3);(try rw [show ((0:Int)).toNat = 0 from rfl] at hx426_4);(try rw [show 0 * 7 = 0 from rfl] at hx426_4);(try rw [Addr.add_zero'] at hx426_4);(try rw [show ((0:Int)).toNat = 0 from rfl] at hx426_5);(try rw [show 0 * 7 = 0 from rfl] at hx426_5);(try rw [Addr.add_zero'] at hx426_5);(try rw [show ((0:Int)).toNat = 0 from rfl] at hx426_6);(try rw [show 0 * 7 = 0 from rfl] at hx426_6);(try rw [Addr.add_zero'] at hx426_6);have HR426_3:=Aside0.mk hi426_3;have HC426_3:=Aside0.mk hl426_3;clear hi426_3 hl426_3;have HR426_4:=Aside0.mk hi426_4;have HC426_4:=Aside0.mk hl426_4;clear hi426_4 hl426_4;have HR426_5:=Aside0.mk hi426_5;have HC426_5:=Aside0.mk hl426_5;clear hi426_5 hl426_5;replace p426:=eq_true p426;replace q426:=eq_true q426;obtain ⟨Ao40,co40,eo40⟩:=Kd.S_slice HO425.out;subst eo40)|(go_at_call 24;(with_reducible refine (garboardref57_Same.calls k _ _ t422 _ _ t416 true _ ?side1 ?side2 ?side3 ?side4 A21.out).mono ?_);(case side1=>exact cx_ ((Kd.S_reads' HO425.out).2.2));(case side2=>exact (Kd.S_reads' HO425.out).2.1);(case side3=>exact cx_ ((Kd.S_reads' HO418.out).2.2));(case side4=>exact (Kd.S_reads' HO418.out).2.1);rintro e w41 ⟨rfl,hb⟩;replace HO408:=rb_ HO408 hb;replace HO411:=rb_ HO411 hb;replace HO418:=Aside0.mk (Kd.S_below (by (with_reducible repeat (first|apply Kd.S_alloc|apply Kd.S_drewN|apply Kd.S_drew));exact HO418.out) hb);replace HO425:=Aside0.mk (Kd.S_below (by (with_reducible repeat (first|apply Kd.S_alloc|apply Kd.S_drewN|apply Kd.S_drew));exact HO425.out) hb);replace HL426_3:=Aside0.mk (Kd.R_below (by (with_reducible repeat (first|apply Kd.R_alloc|apply Kd.R_drewN|apply Kd.R_drew));exact HL426_3.out) hb);replace HL426_4:=Aside0.mk (Kd.R_below (by (with_reducible repeat (first|apply Kd.R_alloc|apply Kd.R_drewN|apply Kd.R_drew));exact HL426_4.out) hb);replace HL426_5:=Aside0.mk (Kd.R_below (by (with_reducible repeat (first|apply Kd.R_alloc|apply Kd.R_drewN|apply Kd.R_drew));exact HL426_5.out) hb);replace BK412:=bb_ BK412 hb;replace HR426_3:=Aside0.mk (Kd.C_below (by repeat (first|(with_reducible exact HR426_3.out)|(with_reducible refine Kd.C_alloc ?_ _)|(with_reducible refine Kd.C_drewN ?_ _)|(with_reducible refine Kd.C_drew ?_)|exact HR426_3.out)) hb);replace HR426_4:=Aside0.mk (Kd.C_below (by repeat (first|(with_reducible exact HR426_4.out)|(with_reducible refine Kd.C_alloc ?_ _)|(with_reducible refine Kd.C_drewN ?_ _)|(with_reducible refine Kd.C_drew ?_)|exact HR426_4.out)) hb);replace HR426_5:=Aside0.mk (Kd.C_below (by repeat (first|(with_reducible exact HR426_5.out)|(with_reducible refine Kd.C_alloc ?_ _)|(with_reducible refine Kd.C_drewN ?_ _)|(with_reducible refine Kd.C_drew ?_)|exact HR426_5.out)) hb);replace HB:=bs_ hb;(try clear hb))|(go_at_call 35;(with_reducible refine (record_Events.calls k _ _ t416 t428 _ ?side1 ?side2 A23.out).mono ?_);(case side1=>exact cx_ ((Kd.S_reads' HO418.out).2.2));(case side2=>exact (Kd.S_reads' HO418.out).2.1);rintro e w42 ⟨v429,rfl,ho0,hb⟩;have HO430:=Aside0.mk (Kd.S_lower (Kd.S_newB (Kd.S_new' (Kd.S_new' (Kd.S_new' (Kd.S_new' (Kd.S_new' ho0 (Kd.R_lt (by (with_reducible repeat (first|apply Kd.R_alloc|apply Kd.R_drewN|apply Kd.R_drew));exact HO408.out))) (Kd.R_lt (by (with_reducible repeat (first|apply Kd.R_alloc|apply Kd.R_drewN|apply Kd.R_drew));exact HO411.out))) (Kd.R_lt (by (with_reducible repeat (first|apply Kd.R_alloc|apply Kd.R_drewN|apply Kd.R_drew));exact HL426_3.out))) (Kd.R_lt (by (with_reducible repeat (first|apply Kd.R_alloc|apply Kd.R_drewN|apply Kd.R_drew));exact HL426_4.out))) (Kd.R_lt (by (with_reducible repeat (first|apply Kd.R_alloc|apply Kd.R_drewN|apply Kd.R_drew));exact HL426_5.out))) (g:=gb412) (o:=.cells #[.int .i64 1,.int .i64 300,.int .i64 2,.slice Ao29 y406.length co29,.slice Ao28 y409.length co28,.slice none 0 0] 26 (0,0)) bk_) (below_size bx_));replace HO408:=rb_ HO408 hb;replace HO411:=rb_ HO411 hb;replace HO418:=Aside0.mk (Kd.S_below (by (with_reducible repeat (first|apply Kd.S_alloc|apply Kd.S_drewN|apply Kd.S_drew));exact HO418.out) hb);replace HO425:=Aside0.mk (Kd.S_below (by (with_reducible repeat (first|apply Kd.S_alloc|apply Kd.S_drewN|apply Kd.S_drew));exact HO425.out) hb);replace HL426_3:=Aside0.mk (Kd.R_below (by (with_reducible repeat (first|apply Kd.R_alloc|apply Kd.R_drewN|apply Kd.R_drew));exact HL426_3.out) hb);replace HL426_4:=Aside0.mk (Kd.R_below (by (with_reducible repeat (first|apply Kd.R_alloc|apply Kd.R_drewN|apply Kd.R_drew));exact HL426_4.out) hb);replace HL426_5:=Aside0.mk (Kd.R_below (by (with_reducible repeat (first|apply Kd.R_alloc|apply Kd.R_drewN|apply Kd.R_drew));exact HL426_5.out) hb);replace BK412:=bb_ BK412 hb;replace HR426_3:=Aside0.mk (Kd.C_below (by repeat (first|(with_reducible exact HR426_3.out)|(with_reducible refine Kd.C_alloc ?_ _)|(with_reducible refine Kd.C_drewN ?_ _)|(with_reducible refine Kd.C_drew ?_)|exact HR426_3.out)) hb);replace HR426_4:=Aside0.mk (Kd.C_below (by repeat (first|(with_reducible exact HR426_4.out)|(with_reducible refine Kd.C_alloc ?_ _)|(with_reducible refine Kd.C_drewN ?_ _)|(with_reducible refine Kd.C_drew ?_)|exact HR426_4.out)) hb);replace HR426_5:=Aside0.mk (Kd.C_below (by repeat (first|(with_reducible exact HR426_5.out)|(with_reducible refine Kd.C_alloc ?_ _)|(with_reducible refine Kd.C_drewN ?_ _)|(with_reducible refine Kd.C_drew ?_)|exact HR426_5.out)) hb);replace HB:=bs_ hb;(try clear hb);(try clear ho0);obtain ⟨Ao43,co43,eo43⟩:=Kd.S_slice HO430.out;subst eo43))
                 go_ret
                 exact ⟨rf_,bx_⟩
                ·replace c22:=Bool.eq_false_iff.mpr c22
                 subst c22
                 have H1:(some false) = some r:=by rw [if_neg (show ¬ (false = true) by decide)] at H;exact H
                 clear H
                 have H:=H1
                 clear H1
                 exact absurd (Option.some.inj H) (by rw [HRT.out];decide)
               ·rw [if_neg c20] at H
                have c20b0:(t423 == (t420.size:Int)) = false:=beq_eq_false_iff_ne.mpr c20
                have c20b1:(t423 != (t420.size:Int)) = true:=bne_iff_ne.mpr c20
                exact absurd (Option.some.inj H) (by rw [HRT.out];decide)
              ·rw [if_neg c19] at H
               have c19b0:((((rd_T52 t416 0).f1).size:Int) == 32) = false:=beq_eq_false_iff_ne.mpr c19
               have c19b1:((((rd_T52 t416 0).f1).size:Int) != 32) = true:=bne_iff_ne.mpr c19
               exact absurd (Option.some.inj H) (by rw [HRT.out];decide)
             ·rw [if_neg c18] at H
              exact absurd H sm_
            ·rw [if_neg c17] at H
             have c17b0:((t416.length:Int) == 1) = false:=beq_eq_false_iff_ne.mpr c17
             have c17b1:((t416.length:Int) != 1) = true:=bne_iff_ne.mpr c17
             exact absurd (Option.some.inj H) (by rw [HRT.out];decide)
           ·rw [if_neg c16] at H
            have c16b0:(t414.toList == ([1,172,2,2,2,1,128,1,1,3,49,47,50,0]:List UInt8)) = false:=beq_eq_false_iff_ne.mpr c16
            have c16b1:(t414.toList != ([1,172,2,2,2,1,128,1,1,3,49,47,50,0]:List UInt8)) = true:=bne_iff_ne.mpr c16
            exact absurd (Option.some.inj H) (by rw [HRT.out];decide)
          ·rw [if_neg c15] at H
           have c15b0:(t421 == 0) = false:=beq_eq_false_iff_ne.mpr c15
           have c15b1:(t421 != 0) = true:=bne_iff_ne.mpr c15
           exact absurd (Option.some.inj H) (by rw [HRT.out];decide)
         ·rw [if_neg c14] at H
          have c14b0:(t419 == 0) = false:=beq_eq_false_iff_ne.mpr c14
          have c14b1:(t419 != 0) = true:=bne_iff_ne.mpr c14
          exact absurd (Option.some.inj H) (by rw [HRT.out];decide)
        ·rw [if_neg c13] at H
         have c13b0:(t415 == 0) = false:=beq_eq_false_iff_ne.mpr c13
         have c13b1:(t415 != 0) = true:=bne_iff_ne.mpr c13
         exact absurd (Option.some.inj H) (by rw [HRT.out];decide)
       ·rw [if_neg c12] at H
        have c12b0:((t413.extract 28 t413.size).toList == ([242,0,21,173]:List UInt8)) = false:=beq_eq_false_iff_ne.mpr c12
        have c12b1:((t413.extract 28 t413.size).toList != ([242,0,21,173]:List UInt8)) = true:=bne_iff_ne.mpr c12
        exact absurd (Option.some.inj H) (by rw [HRT.out];decide)
      ·rw [if_neg c11] at H
       exact absurd H sm_
     ·rw [if_neg c10] at H
      have c10b0:((t413.extract 0 4).toList == ([186,120,22,191]:List UInt8)) = false:=beq_eq_false_iff_ne.mpr c10
      have c10b1:((t413.extract 0 4).toList != ([186,120,22,191]:List UInt8)) = true:=bne_iff_ne.mpr c10
      exact absurd (Option.some.inj H) (by rw [HRT.out];decide)
    ·rw [if_neg c9] at H
     exact absurd H sm_
   ·rw [if_neg c8] at H
    exact absurd H sm_
  ·rw [if_neg c7] at H
   have c7b0:((t413.size:Int) == 32) = false:=beq_eq_false_iff_ne.mpr c7
   have c7b1:((t413.size:Int) != 32) = true:=bne_iff_ne.mpr c7
   exact absurd (Option.some.inj H) (by rw [HRT.out];decide)
 ·rw [if_neg c5] at H
  exact absurd H sm_
end Go.Proofs.YtcmbggahndfnnaaGreatDoor.Pr
namespace Go.Proofs.YtcmbggahndfnnaaGreatDoor.Pr
open Go.RowKit Go.Proofs.YtcmbggahndfnnaaGreatDoorW.PrintWords Go.Proofs.YtcmbggahndfnnaaGreatDoorW.PrintLast Go.Proofs.YtcmbggahndfnnaaGreatDoorW.PrintMore
attribute [local go_sem] max2_int min2_int max_two min_two max_three min_three max_four min_four
set_option maxHeartbeats 8000000
set_option maxRecDepth 100000
set_option linter.unusedVariables false
set_option linter.unusedSimpArgs false
def garboardlaw57_RecordExact.f (k:Nat) (a0:ByteArray):Option (Bool):=(garboardlaw57_awake.f k).bind fun t879=>(if t879 = true then (if (a0.size:Int) > 1000 then (some true) else ((record_Decode.f k a0).bind fun bt880=>(if bt880.2.2.2.2.2.2 = 0 then ((record_Encode.f k bt880.1 bt880.2.1 bt880.2.2.1 bt880.2.2.2.1 bt880.2.2.2.2.1 bt880.2.2.2.2.2.1).bind fun bt894=>(if bt894.2 = 0 then (some (bt894.1.toList == a0.toList)) else (some false))) else (if bt880.2.2.2.2.2.2 = 13 then ((garboardref57_SameEvent.f k bt880.1 bt880.2.1 bt880.2.2.1 bt880.2.2.2.1 bt880.2.2.2.2.1 bt880.2.2.2.2.2.1 0 0 0 ([]:List Int) ([]:List ByteArray) ([]:List ByteArray)).bind fun t896=>(some t896)) else (some false))))) else (some false))
theorem garboardlaw57_RecordExact.calls (k:Nat) (a0:ByteArray) (r:Bool) (w:World) (hL:LaidW w) (h:garboardlaw57_RecordExact.f k a0 = some r) (hr:r = true) :
  Calls Tryz.prog 6 #[.string a0] w fun e w'=>e = .returned (.bool r)∧Below w.heap.size w w':=by
 have hu26:=Tryz.underlying26
 have HB:=Aside0.mk (Below.refl w.heap.size w)
 have HLW:=Aside0.mk hL
 clear hL
 have HRT:=Aside0.mk (hr)
 clear hr
 have H:=h;clear h;unfold garboardlaw57_RecordExact.f at H
 obtain ⟨t879,A2,H⟩:=bn_ H
 by_cases c3:t879 = true
 ·subst c3
  have H1:(if (a0.size:Int) > 1000 then (some true) else ((record_Decode.f k a0).bind fun bt880=>(if bt880.2.2.2.2.2.2 = 0 then ((record_Encode.f k bt880.1 bt880.2.1 bt880.2.2.1 bt880.2.2.2.1 bt880.2.2.2.2.1 bt880.2.2.2.2.2.1).bind fun bt894=>(if bt894.2 = 0 then (some (bt894.1.toList == a0.toList)) else (some false))) else (if bt880.2.2.2.2.2.2 = 13 then ((garboardref57_SameEvent.f k bt880.1 bt880.2.1 bt880.2.2.1 bt880.2.2.2.1 bt880.2.2.2.2.1 bt880.2.2.2.2.2.1 0 0 0 ([]:List Int) ([]:List ByteArray) ([]:List ByteArray)).bind fun t896=>(some t896)) else (some false))))) = some r:=by rw [if_pos rfl] at H;exact H
  clear H
  have H:=H1
  clear H1
  by_cases c4:(a0.size:Int) > 1000
  ·rw [if_pos c4] at H
   have c4b0:decide (1000 < (a0.size:Int)) = true:=decide_eq_true c4
   have c4b1:decide (1000 < a0.size) = true:=decide_eq_true (by omega)
   clear c4
   obtain rfl:=Option.some.inj H
   go_enter Tryz.func6,Tryz.ntmps6
   go_wp2_with (first|((with_reducible refine gate_callee (f:=10) rfl ?_);refine gl_ (some 7) Tryz.func10 #[] (garboardlaw57_awake.calls k  true _ (HLW.out.below bx_) A2.out) ?_;clear HB;intro w5 hb HB;clear hb))
   go_ret
   exact ⟨rf_,bx_⟩
  ·rw [if_neg c4] at H
   have c4b0:decide (1000 < (a0.size:Int)) = false:=decide_eq_false c4
   have c4b1:decide (1000 < a0.size) = false:=decide_eq_false (by omega)
   clear c4
   obtain ⟨⟨t880,t881,t882,t883,t886,t889,t892⟩,A6,H⟩:=bn_ H
   dsimp only at H
   by_cases c7:t892 = 0
   ·rw [if_pos c7] at H
    have c7b0:(t892 == 0) = true:=beq_iff_eq.mpr c7
    have c7b1:(t892 != 0) = false:=bne_eq_false_iff_eq.mpr c7
    clear c7
    obtain ⟨⟨t894,t895⟩,A8,H⟩:=bn_ H
    dsimp only at H
    by_cases c9:t895 = 0
    ·rw [if_pos c9] at H
     have c9b0:(t895 == 0) = true:=beq_iff_eq.mpr c9
     have c9b1:(t895 != 0) = false:=bne_eq_false_iff_eq.mpr c9
     clear c9
     obtain rfl:=Option.some.inj H
     go_enter Tryz.func6,Tryz.ntmps6
     go_wp2_with (first|((with_reducible refine gate_callee (f:=10) rfl ?_);refine gl_ (some 7) Tryz.func10 #[] (garboardlaw57_awake.calls k  true _ (HLW.out.below bx_) A2.out) ?_;clear HB;intro w10 hb HB;clear hb)|((with_reducible refine gate_callee (f:=15) rfl ?_);refine gm_ (some 14) Tryz.func15 #[.string a0] ?_;(with_reducible refine (record_Decode.calls k a0 t880 t881 t882 t883 t886 t889 t892 _ (HLW.out.below bx_) A6.out).mono ?_);rintro e w11 ⟨v884,v887,v890,rfl,ho0,ho1,ho2,hb⟩;refine ⟨_,rfl,?_⟩;have HO885:=Aside0.mk (Kd.R_lower ho0 (below_size bx_));have HO888:=Aside0.mk (Kd.R_lower ho1 (below_size bx_));have HO891:=Aside0.mk (Kd.R_lower ho2 (below_size bx_));replace HB:=bs_ hb;(try clear hb);(try clear ho0);(try clear ho1);(try clear ho2))|((with_reducible refine gate_dst (N:=3) rfl ?_);refine bv_ #[.int .i64 0,.int .i64 0,.int .i64 0,.slice none 0 0,.slice none 0 0,.slice none 0 0] 26 ?_;clear HB;intro gb893 hg w12 BK893 GE893 hb HB;replace HO885:=rb_ HO885 hb;replace HO888:=rb_ HO888 hb;replace HO891:=rb_ HO891 hb;clear hb hg;obtain ⟨hcz13_0,hcz13_1,hcz13_2,hcz13_3,hcz13_4,hcz13_5,hfz13_0,hfz13_1,hfz13_2,hfz13_3,hfz13_4,hfz13_5⟩:=c6_ BK893;obtain ⟨Ao14,co14,eo14⟩:=Kd.R_slice HO885.out;subst eo14;obtain ⟨Ao15,co15,eo15⟩:=Kd.R_slice HO888.out;subst eo15;obtain ⟨Ao16,co16,eo16⟩:=Kd.R_slice HO891.out;subst eo16)|((with_reducible refine gate_callee (f:=12) rfl ?_);refine gm_ (some 28) Tryz.func12 #[.agg #[.int .i64 t880,.int .i64 t881,.int .i64 t882,.slice Ao14 t883.length co14,.slice Ao15 t886.length co15,.slice Ao16 t889.length co16]] ?_;(with_reducible refine (record_Encode.calls k t880 t881 t882 _ _ t883 _ _ t886 _ _ t889 t894 t895 _ ?side1 ?side2 ?side3 ?side4 ?side5 ?side6 ?side7 A8.out).mono ?_);(case side1=>refine (Kd.R_reads' (e:=3) (base:=w.heap.size) (ok:=fun k_=>True) (n:=t883.length) (c:=co14) ?_).2.2;exact (by (with_reducible repeat (first|apply Kd.R_alloc|apply Kd.R_drewN|apply Kd.R_drew));exact (Kd.R_mono (Kd.R_far (p:=⟨gb893,5,none⟩) (Kd.R_far (p:=⟨gb893,4,none⟩) (Kd.R_far (p:=⟨gb893,3,none⟩) (Kd.R_far (p:=⟨gb893,2,none⟩) (Kd.R_far (p:=⟨gb893,1,none⟩) (Kd.R_far (p:=⟨gb893,0,none⟩) (Kd.R_types HO885.out BK893.out de_) (fun _ hk=>hk.2) (.int .i64 t880)) (fun _ hk=>hk.2) (.int .i64 t881)) (fun _ hk=>hk.2) (.int .i64 t882)) (fun _ hk=>hk.2) (.slice Ao14 t883.length co14)) (fun _ hk=>hk.2) (.slice Ao15 t886.length co15)) (fun _ hk=>hk.2) (.slice Ao16 t889.length co16)) (fun _ h_=>h_.1))));(case side2=>exact (Kd.R_reads' HO885.out).2.1);(case side3=>refine (Kd.R_reads' (e:=65) (base:=w.heap.size) (ok:=fun k_=>True) (n:=t886.length) (c:=co15) ?_).2.2;exact (by (with_reducible repeat (first|apply Kd.R_alloc|apply Kd.R_drewN|apply Kd.R_drew));exact (Kd.R_mono (Kd.R_far (p:=⟨gb893,5,none⟩) (Kd.R_far (p:=⟨gb893,4,none⟩) (Kd.R_far (p:=⟨gb893,3,none⟩) (Kd.R_far (p:=⟨gb893,2,none⟩) (Kd.R_far (p:=⟨gb893,1,none⟩) (Kd.R_far (p:=⟨gb893,0,none⟩) (Kd.R_types HO888.out BK893.out de_) (fun _ hk=>hk.2) (.int .i64 t880)) (fun _ hk=>hk.2) (.int .i64 t881)) (fun _ hk=>hk.2) (.int .i64 t882)) (fun _ hk=>hk.2) (.slice Ao14 t883.length co14)) (fun _ hk=>hk.2) (.slice Ao15 t886.length co15)) (fun _ hk=>hk.2) (.slice Ao16 t889.length co16)) (fun _ h_=>h_.1))));(case side4=>exact (Kd.R_reads' HO888.out).2.1);(case side5=>refine (Kd.R_reads' (e:=9) (base:=w.heap.size) (ok:=fun k_=>True) (n:=t889.length) (c:=co16) ?_).2.2;exact (by (with_reducible repeat (first|apply Kd.R_alloc|apply Kd.R_drewN|apply Kd.R_drew));exact (Kd.R_mono (Kd.R_far (p:=⟨gb893,5,none⟩) (Kd.R_far (p:=⟨gb893,4,none⟩) (Kd.R_far (p:=⟨gb893,3,none⟩) (Kd.R_far (p:=⟨gb893,2,none⟩) (Kd.R_far (p:=⟨gb893,1,none⟩) (Kd.R_far (p:=⟨gb893,0,none⟩) (Kd.R_types HO891.out BK893.out de_) (fun _ hk=>hk.2) (.int .i64 t880)) (fun _ hk=>hk.2) (.int .i64 t881)) (fun _ hk=>hk.2) (.int .i64 t882)) (fun _ hk=>hk.2) (.slice Ao14 t883.length co14)) (fun _ hk=>hk.2) (.slice Ao15 t886.length co15)) (fun _ hk=>hk.2) (.slice Ao16 t889.length co16)) (fun _ h_=>h_.1))));(case side6=>exact (Kd.R_reads' HO891.out).2.1);(case side7=>exact HLW.out.below bx_);rintro e w17 ⟨rfl,hb⟩;refine ⟨_,rfl,?_⟩;replace HO885:=Aside0.mk (Kd.R_below (by (with_reducible repeat (first|apply Kd.R_alloc|apply Kd.R_drewN|apply Kd.R_drew));exact (Kd.R_mono (Kd.R_far (p:=⟨gb893,5,none⟩) (Kd.R_far (p:=⟨gb893,4,none⟩) (Kd.R_far (p:=⟨gb893,3,none⟩) (Kd.R_far (p:=⟨gb893,2,none⟩) (Kd.R_far (p:=⟨gb893,1,none⟩) (Kd.R_far (p:=⟨gb893,0,none⟩) (Kd.R_types HO885.out BK893.out de_) (fun _ hk=>hk.2) (.int .i64 t880)) (fun _ hk=>hk.2) (.int .i64 t881)) (fun _ hk=>hk.2) (.int .i64 t882)) (fun _ hk=>hk.2) (.slice Ao14 t883.length co14)) (fun _ hk=>hk.2) (.slice Ao15 t886.length co15)) (fun _ hk=>hk.2) (.slice Ao16 t889.length co16)) (fun _ h_=>h_.1))) hb);replace HO888:=Aside0.mk (Kd.R_below (by (with_reducible repeat (first|apply Kd.R_alloc|apply Kd.R_drewN|apply Kd.R_drew));exact (Kd.R_mono (Kd.R_far (p:=⟨gb893,5,none⟩) (Kd.R_far (p:=⟨gb893,4,none⟩) (Kd.R_far (p:=⟨gb893,3,none⟩) (Kd.R_far (p:=⟨gb893,2,none⟩) (Kd.R_far (p:=⟨gb893,1,none⟩) (Kd.R_far (p:=⟨gb893,0,none⟩) (Kd.R_types HO888.out BK893.out de_) (fun _ hk=>hk.2) (.int .i64 t880)) (fun _ hk=>hk.2) (.int .i64 t881)) (fun _ hk=>hk.2) (.int .i64 t882)) (fun _ hk=>hk.2) (.slice Ao14 t883.length co14)) (fun _ hk=>hk.2) (.slice Ao15 t886.length co15)) (fun _ hk=>hk.2) (.slice Ao16 t889.length co16)) (fun _ h_=>h_.1))) hb);replace HO891:=Aside0.mk (Kd.R_below (by (with_reducible repeat (first|apply Kd.R_alloc|apply Kd.R_drewN|apply Kd.R_drew));exact (Kd.R_mono (Kd.R_far (p:=⟨gb893,5,none⟩) (Kd.R_far (p:=⟨gb893,4,none⟩) (Kd.R_far (p:=⟨gb893,3,none⟩) (Kd.R_far (p:=⟨gb893,2,none⟩) (Kd.R_far (p:=⟨gb893,1,none⟩) (Kd.R_far (p:=⟨gb893,0,none⟩) (Kd.R_types HO891.out BK893.out de_) (fun _ hk=>hk.2) (.int .i64 t880)) (fun _ hk=>hk.2) (.int .i64 t881)) (fun _ hk=>hk.2) (.int .i64 t882)) (fun _ hk=>hk.2) (.slice Ao14 t883.length co14)) (fun _ hk=>hk.2) (.slice Ao15 t886.length co15)) (fun _ hk=>hk.2) (.slice Ao16 t889.length co16)) (fun _ h_=>h_.1))) hb);replace BK893:=Aside0.mk (blk_below (g:=gb893) (o:=.cells #[.int .i64 t880,.int .i64 t881,.int .i64 t882,.slice Ao14 t883.length co14,.slice Ao15 t886.length co15,.slice Ao16 t889.length co16] 26 (0,0)) bk_ hb);replace HB:=bs_ hb;(try clear hb)))
     go_ret
     exact ⟨rf_,bx_⟩
    ·rw [if_neg c9] at H
     have c9b0:(t895 == 0) = false:=beq_eq_false_iff_ne.mpr c9
     have c9b1:(t895 != 0) = true:=bne_iff_ne.mpr c9
     exact absurd (Option.some.inj H) (by rw [HRT.out];decide)
   ·rw [if_neg c7] at H
    have c7b0:(t892 == 0) = false:=beq_eq_false_iff_ne.mpr c7
    have c7b1:(t892 != 0) = true:=bne_iff_ne.mpr c7
    by_cases c26:t892 = 13
    ·rw [if_pos c26] at H
     have c26b0:(t892 == 13) = true:=beq_iff_eq.mpr c26
     have c26b1:(t892 != 13) = false:=bne_eq_false_iff_eq.mpr c26
     clear c26
     obtain ⟨t896,A27,H⟩:=bn_ H
     obtain rfl:=Option.some.inj H
     go_enter Tryz.func6,Tryz.ntmps6
     go_wp2_with (first|((with_reducible refine gate_callee (f:=10) rfl ?_);refine gl_ (some 7) Tryz.func10 #[] (garboardlaw57_awake.calls k  true _ (HLW.out.below bx_) A2.out) ?_;clear HB;intro w28 hb HB;clear hb)|((with_reducible refine gate_callee (f:=15) rfl ?_);refine gm_ (some 14) Tryz.func15 #[.string a0] ?_;(with_reducible refine (record_Decode.calls k a0 t880 t881 t882 t883 t886 t889 t892 _ (HLW.out.below bx_) A6.out).mono ?_);rintro e w29 ⟨v884,v887,v890,rfl,ho0,ho1,ho2,hb⟩;refine ⟨_,rfl,?_⟩;have HO885:=Aside0.mk (Kd.R_lower ho0 (below_size bx_));have HO888:=Aside0.mk (Kd.R_lower ho1 (below_size bx_));have HO891:=Aside0.mk (Kd.R_lower ho2 (below_size bx_));replace HB:=bs_ hb;(try clear hb);(try clear ho0);(try clear ho1);(try clear ho2))|((with_reducible refine gate_dst (N:=3) rfl ?_);refine bv_ #[.int .i64 0,.int .i64 0,.int .i64 0,.slice none 0 0,.slice none 0 0,.slice none 0 0] 26 ?_;clear HB;intro gb893 hg w30 BK893 GE893 hb HB;replace HO885:=rb_ HO885 hb;replace HO888:=rb_ HO888 hb;replace HO891:=rb_ HO891 hb;clear hb hg;obtain ⟨hcz31_0,hcz31_1,hcz31_2,hcz31_3,hcz31_4,hcz31_5,hfz31_0,hfz31_1,hfz31_2,hfz31_3,hfz31_4,hfz31_5⟩:=c6_ BK893;obtain ⟨Ao32,co32,eo32⟩:=Kd.R_slice HO885.out;subst eo32;obtain ⟨Ao33,co33,eo33⟩:=Kd.R_slice HO888.out;subst eo33;obtain ⟨Ao34,co34,eo34⟩:=Kd.R_slice HO891.out;subst eo34)|(go_at_call 17;(refine (garboardref57_SameEvent.calls k t880 t881 t882 _ _ t883 _ _ t886 _ _ t889 0 0 0 _ _ ([]:List Int) _ _ ([]:List ByteArray) _ _ ([]:List ByteArray) t896 _ ?side1 ?side2 ?side3 ?side4 ?side5 ?side6 ?side7 ?side8 ?side9 ?side10 ?side11 ?side12 A27.out).mono ?_);(case side1=>refine (Kd.R_reads' (e:=3) (base:=w.heap.size) (ok:=fun k_=>True) (n:=t883.length) (c:=co32) ?_).2.2;exact (by (with_reducible repeat (first|apply Kd.R_alloc|apply Kd.R_drewN|apply Kd.R_drew));exact (Kd.R_mono (Kd.R_far (p:=⟨gb893,5,none⟩) (Kd.R_far (p:=⟨gb893,4,none⟩) (Kd.R_far (p:=⟨gb893,3,none⟩) (Kd.R_far (p:=⟨gb893,2,none⟩) (Kd.R_far (p:=⟨gb893,1,none⟩) (Kd.R_far (p:=⟨gb893,0,none⟩) (Kd.R_types HO885.out BK893.out de_) (fun _ hk=>hk.2) (.int .i64 t880)) (fun _ hk=>hk.2) (.int .i64 t881)) (fun _ hk=>hk.2) (.int .i64 t882)) (fun _ hk=>hk.2) (.slice Ao32 t883.length co32)) (fun _ hk=>hk.2) (.slice Ao33 t886.length co33)) (fun _ hk=>hk.2) (.slice Ao34 t889.length co34)) (fun _ h_=>h_.1))));(case side2=>exact (Kd.R_reads' HO885.out).2.1);(case side3=>refine (Kd.R_reads' (e:=65) (base:=w.heap.size) (ok:=fun k_=>True) (n:=t886.length) (c:=co33) ?_).2.2;exact (by (with_reducible repeat (first|apply Kd.R_alloc|apply Kd.R_drewN|apply Kd.R_drew));exact (Kd.R_mono (Kd.R_far (p:=⟨gb893,5,none⟩) (Kd.R_far (p:=⟨gb893,4,none⟩) (Kd.R_far (p:=⟨gb893,3,none⟩) (Kd.R_far (p:=⟨gb893,2,none⟩) (Kd.R_far (p:=⟨gb893,1,none⟩) (Kd.R_far (p:=⟨gb893,0,none⟩) (Kd.R_types HO888.out BK893.out de_) (fun _ hk=>hk.2) (.int .i64 t880)) (fun _ hk=>hk.2) (.int .i64 t881)) (fun _ hk=>hk.2) (.int .i64 t882)) (fun _ hk=>hk.2) (.slice Ao32 t883.length co32)) (fun _ hk=>hk.2) (.slice Ao33 t886.length co33)) (fun _ hk=>hk.2) (.slice Ao34 t889.length co34)) (fun _ h_=>h_.1))));(case side4=>exact (Kd.R_reads' HO888.out).2.1);(case side5=>refine (Kd.R_reads' (e:=9) (base:=w.heap.size) (ok:=fun k_=>True) (n:=t889.length) (c:=co34) ?_).2.2;exact (by (with_reducible repeat (first|apply Kd.R_alloc|apply Kd.R_drewN|apply Kd.R_drew));exact (Kd.R_mono (Kd.R_far (p:=⟨gb893,5,none⟩) (Kd.R_far (p:=⟨gb893,4,none⟩) (Kd.R_far (p:=⟨gb893,3,none⟩) (Kd.R_far (p:=⟨gb893,2,none⟩) (Kd.R_far (p:=⟨gb893,1,none⟩) (Kd.R_far (p:=⟨gb893,0,none⟩) (Kd.R_types HO891.out BK893.out de_) (fun _ hk=>hk.2) (.int .i64 t880)) (fun _ hk=>hk.2) (.int .i64 t881)) (fun _ hk=>hk.2) (.int .i64 t882)) (fun _ hk=>hk.2) (.slice Ao32 t883.length co32)) (fun _ hk=>hk.2) (.slice Ao33 t886.length co33)) (fun _ hk=>hk.2) (.slice Ao34 t889.length co34)) (fun _ h_=>h_.1))));(case side6=>exact (Kd.R_reads' HO891.out).2.1);(case side7=>exact Kd.C_nil _ _);(case side8=>exact Nat.le_refl _);(case side9=>exact Kd.C_nil _ _);(case side10=>exact Nat.le_refl _);(case side11=>exact Kd.C_nil _ _);(case side12=>exact Nat.le_refl _);rintro e w35 ⟨rfl,hb⟩;replace HO885:=Aside0.mk (Kd.R_below (by (with_reducible repeat (first|apply Kd.R_alloc|apply Kd.R_drewN|apply Kd.R_drew));exact (Kd.R_mono (Kd.R_far (p:=⟨gb893,5,none⟩) (Kd.R_far (p:=⟨gb893,4,none⟩) (Kd.R_far (p:=⟨gb893,3,none⟩) (Kd.R_far (p:=⟨gb893,2,none⟩) (Kd.R_far (p:=⟨gb893,1,none⟩) (Kd.R_far (p:=⟨gb893,0,none⟩) (Kd.R_types HO885.out BK893.out de_) (fun _ hk=>hk.2) (.int .i64 t880)) (fun _ hk=>hk.2) (.int .i64 t881)) (fun _ hk=>hk.2) (.int .i64 t882)) (fun _ hk=>hk.2) (.slice Ao32 t883.length co32)) (fun _ hk=>hk.2) (.slice Ao33 t886.length co33)) (fun _ hk=>hk.2) (.slice Ao34 t889.length co34)) (fun _ h_=>h_.1))) hb);replace HO888:=Aside0.mk (Kd.R_below (by (with_reducible repeat (first|apply Kd.R_alloc|apply Kd.R_drewN|apply Kd.R_drew));exact (Kd.R_mono (Kd.R_far (p:=⟨gb893,5,none⟩) (Kd.R_far (p:=⟨gb893,4,none⟩) (Kd.R_far (p:=⟨gb893,3,none⟩) (Kd.R_far (p:=⟨gb893,2,none⟩) (Kd.R_far (p:=⟨gb893,1,none⟩) (Kd.R_far (p:=⟨gb893,0,none⟩) (Kd.R_types HO888.out BK893.out de_) (fun _ hk=>hk.2) (.int .i64 t880)) (fun _ hk=>hk.2) (.int .i64 t881)) (fun _ hk=>hk.2) (.int .i64 t882)) (fun _ hk=>hk.2) (.slice Ao32 t883.length co32)) (fun _ hk=>hk.2) (.slice Ao33 t886.length co33)) (fun _ hk=>hk.2) (.slice Ao34 t889.length co34)) (fun _ h_=>h_.1))) hb);replace HO891:=Aside0.mk (Kd.R_below (by (with_reducible repeat (first|apply Kd.R_alloc|apply Kd.R_drewN|apply Kd.R_drew));exact (Kd.R_mono (Kd.R_far (p:=⟨gb893,5,none⟩) (Kd.R_far (p:=⟨gb893,4,none⟩) (Kd.R_far (p:=⟨gb893,3,none⟩) (Kd.R_far (p:=⟨gb893,2,none⟩) (Kd.R_far (p:=⟨gb893,1,none⟩) (Kd.R_far (p:=⟨gb893,0,none⟩) (Kd.R_types HO891.out BK893.out de_) (fun _ hk=>hk.2) (.int .i64 t880)) (fun _ hk=>hk.2) (.int .i64 t881)) (fun _ hk=>hk.2) (.int .i64 t882)) (fun _ hk=>hk.2) (.slice Ao32 t883.length co32)) (fun _ hk=>hk.2) (.slice Ao33 t886.length co33)) (fun _ hk=>hk.2) (.slice Ao34 t889.length co34)) (fun _ h_=>h_.1))) hb);replace BK893:=Aside0.mk (blk_below (g:=gb893) (o:=.cells #[.int .i64 t880,.int .i64 t881,.int .i64 t882,.slice Ao32 t883.length co32,.slice Ao33 t886.length co33,.slice Ao34 t889.length co34] 26 (0,0)) bk_ hb);replace HB:=bs_ hb;(try clear hb)))
     go_ret
     exact ⟨rf_,bx_⟩
    ·rw [if_neg c26] at H
     have c26b0:(t892 == 13) = false:=beq_eq_false_iff_ne.mpr c26
     have c26b1:(t892 != 13) = true:=bne_iff_ne.mpr c26
     exact absurd (Option.some.inj H) (by rw [HRT.out];decide)
 ·replace c3:=Bool.eq_false_iff.mpr c3
  subst c3
  have H1:(some false) = some r:=by rw [if_neg (show ¬ (false = true) by decide)] at H;exact H
  clear H
  have H:=H1
  clear H1
  exact absurd (Option.some.inj H) (by rw [HRT.out];decide)
end Go.Proofs.YtcmbggahndfnnaaGreatDoor.Pr
set_option linter.unusedVariables false
set_option linter.unusedSimpArgs false
namespace Go.Proofs.YtcmbggahndfnnaaGreatDoor.Pr
open Go.RowKit Go.Lib Go.Proofs.YtcmbggahndfnnaaGreatDoorW.PrintWords Go.Proofs.YtcmbggahndfnnaaGreatDoorW.PrintLast Go.Proofs.YtcmbggahndfnnaaGreatDoorW.PrintMore Go.Proofs.YtcmbggahndfnnaaGreatDoor.NatTh
def ngB (a:ByteArray):Bool:=(bs a).head? == some 45
def abB (a:ByteArray):ByteArray:=if ngB a = true then a.extract 1 a.size else a
def iv (a:ByteArray):Bool:=nv (abB a) && (!ngB a || !((abB a).toList == ([48]:List UInt8)))
theorem one45:(⟨#[45]⟩:ByteArray).toList = ([45]:List UInt8):=toL _
theorem cut_eq (a:ByteArray):strings_CutPrefix.f a (⟨#[45]⟩:ByteArray) = some (abB a,ngB a):=by
 have hsz:=bs_length a
 have s1:((⟨#[45]⟩:ByteArray).size:Int) = 1:=rfl
 have key:stringslite_HasPrefix.f a (⟨#[45]⟩:ByteArray) = some (ngB a):=by
  unfold stringslite_HasPrefix.f
  rw [s1]
  by_cases h:(a.size:Int) ≥ 1
  ·rw [if_pos h,if_pos (by omega),if_pos (by omega),one45,toL,show ((1:Int)).toNat = 1 from rfl,bs_to]
   congr 1
   unfold ngB
   cases hb:bs a with
   | nil=>rw [hb] at hsz;simp at hsz;omega
   | cons c l =>
    simp only [List.take_succ_cons,List.take_zero,List.head?_cons]
    by_cases hc:c = 45
    ·subst hc;rfl
    ·have e1:(([c]:List UInt8) == [45]) = false:=beq_eq_false_iff_ne.2 (fun e=>hc (by simpa using e))
     have e2:((some c:Option UInt8) == some 45) = false:=beq_eq_false_iff_ne.2 (fun e=>hc (Option.some.inj e))
     rw [e1,e2]
  ·rw [if_neg h]
   have h0:bs a = []:=List.length_eq_zero_iff.1 (by omega)
   unfold ngB
   rw [h0]
   rfl
 unfold strings_CutPrefix.f stringslite_CutPrefix.f
 rw [key,Option.bind_some,s1]
 by_cases h:ngB a = true
 ·have hs:1≤(a.size:Int):=by
   unfold ngB at h
   cases hb:bs a with
   | nil=>rw [hb] at h;cases h
   | cons c l=>rw [hb] at hsz;simp at hsz;omega
  rw [if_pos h,if_pos (by omega),if_pos hs,Option.bind_some]
  unfold abB
  rw [if_pos h,h]
  rfl
 ·rw [if_neg h,Option.bind_some]
  unfold abB
  rw [if_neg h,(by simpa using h:ngB a = false)]
theorem ab_size (a:ByteArray):(abB a).size≤a.size:=by
 unfold abB
 split
 ·rw [ByteArray.size_extract];omega
 ·exact Nat.le_refl _
theorem read_ev (a:ByteArray) (hs:a.size < 1152921504606846976):Ev (fun k=>integer_read.f k a) (ngB a,abB a,iv a):=by
 have v:=Valid_ev (abB a) (Nat.lt_of_le_of_lt (ab_size a) hs)
 refine Ev.congr (f:=fun k=>(natural_Valid.f k (abB a)).bind fun t108=>(if t108 = true then (some (ngB a,abB a,(!ngB a || (!((abB a).toList == ([48]:List UInt8)))))) else (some (ngB a,abB a,false)))) (fun k=>by unfold integer_read.f;rw [cut_eq];rfl) (Ev.bind v (Ev.congr (fun k=>?_) (Ev.now _)))
 unfold iv
 cases nv (abB a) with
 | true=>rw [if_pos rfl,Bool.true_and]
 | false=>rw [if_neg (by simp),Bool.false_and]
theorem ev_t {α:Type} {c:Prop} [Decidable c] {x y:Nat→Option α} {r:α} (h:c) (e:Ev x r):Ev (fun k=>if c then x k else y k) r:=Ev.congr (fun k=>if_pos h) e
theorem ev_e {α:Type} {c:Prop} [Decidable c] {x y:Nat→Option α} {r:α} (h:¬ c) (e:Ev y r):Ev (fun k=>if c then x k else y k) r:=Ev.congr (fun k=>if_neg h) e
theorem sh_lt {a:ByteArray} (h:Sh a):a.size < 1152921504606846976:=by unfold Sh at h;omega
theorem sh_ab {a:ByteArray} (h:Sh a):Sh (abB a):=by have:=ab_size a;unfold Sh at h ⊢;omega
theorem sh_0:Sh ⟨#[48]⟩:=by unfold Sh;decide
theorem bothj_ex (x:Bool) (a:Bool) (b:ByteArray) (c:Bool) (d:ByteArray) (hb:Sh b):∃ r,Ev (fun k=>integer_both.j0 k x a b c d) r∧Sh r.2.1:=by
 cases x with
 | true=>exact ⟨(false,⟨#[48]⟩,false,⟨#[48]⟩,1),Ev.step (fun k=>by rw [integer_both.j0,if_pos rfl];rfl) (Ev.now _),sh_0⟩
 | false=>exact ⟨(a,b,c,d,0),Ev.step (fun k=>by rw [integer_both.j0,if_neg (by decide)]) (Ev.now _),hb⟩
theorem both_ex (a b:ByteArray) (ha:Sh a) (hb:Sh b):∃ r,Ev (fun k=>integer_both.f k a b) r∧Sh r.2.1:=by
 unfold integer_both.f
 cases hi:iv a with
 | true =>
  obtain ⟨r,h1,h2⟩:=bothj_ex (!iv b) (ngB a) (abB a) (ngB b) (abB b) (sh_ab ha)
  refine ⟨r,(read_ev a (sh_lt ha)).bind ((read_ev b (sh_lt hb)).bind ?_),h2⟩
  dsimp only
  rw [hi]
  exact h1
 | false =>
  obtain ⟨r,h1,h2⟩:=bothj_ex true (ngB a) (abB a) (ngB b) (abB b) (sh_ab ha)
  refine ⟨r,(read_ev a (sh_lt ha)).bind ((read_ev b (sh_lt hb)).bind ?_),h2⟩
  dsimp only
  rw [hi]
  exact h1
theorem abs_ex (a:ByteArray) (ha:Sh a):∃ r,Ev (fun k=>integer_Abs.f k a) r∧Sh r.1:=by
 obtain ⟨r,h1,h2⟩:=both_ex a _ ha sh_0
 have h3:Ev (fun k=>integer_one.f k a) (r.1,r.2.1,r.2.2.2.2):=by
  unfold integer_one.f
  exact h1.bind (Ev.now _)
 unfold integer_Abs.f
 by_cases h0:r.2.2.2.2 = 0
 ·exact ⟨(r.2.1,0),h3.bind (by dsimp only;rw [if_pos h0];exact Ev.now _),h2⟩
 ·exact ⟨(⟨#[]⟩,r.2.2.2.2),h3.bind (by dsimp only;rw [if_neg h0];exact Ev.now _),by show (0:Nat)≤_;omega⟩
theorem divisor_ex (a b:ByteArray) (ha:Sh a) (hb:Sh b):∃ g,Ev (fun k=>rational_divisor.f k a b) g:=by
 obtain ⟨r,h1,h2⟩:=abs_ex a ha
 unfold rational_divisor.f
 refine ⟨(gcdV r.1 b).1,h1.bind ?_⟩
 unfold natural_GCD.f
 rw [if_pos ⟨h2,hb⟩]
 exact Ev.now _
theorem cut_sizes (a:ByteArray) (h:Sh a):Sh (cutAt a 47).1∧Sh (cutAt a 47).2.1:=by
 unfold Sh at h ⊢
 unfold cutAt
 split
 ·exact ⟨h,by show (0:Nat)≤_;omega⟩
 ·constructor
  ·show (a.extract _ _).size≤_
   rw [ByteArray.size_extract];omega
  ·show (a.extract _ _).size≤_
   rw [ByteArray.size_extract];omega
theorem valid_ex (a:ByteArray) (ha:Sh a):∃ b,Ev (fun k=>rational_Valid.f k a) b:=by
 have hc:strings_Cut.f a ⟨#[47]⟩ = some (cutAt a 47):=by
  unfold strings_Cut.f
  exact if_pos ⟨rfl,by unfold Sh at ha;omega⟩
 obtain ⟨s1,s2⟩:=cut_sizes a ha
 generalize cutAt a 47 = c at hc s1 s2
 obtain ⟨p,q,d⟩:=c
 dsimp only at s1 s2
 have hp:Ev (fun k=>integer_Valid.f k p) (iv p):=by
  unfold integer_Valid.f
  exact (read_ev p (sh_lt s1)).bind (Ev.now _)
 have hq:=Valid_ev q (sh_lt s2)
 have key:∃ r,Ev (fun k=>rational_read.f k a) r:=by
  unfold rational_read.f
  rw [hc]
  simp only [Option.bind_some]
  cases d with
  | false =>
   simp only [Bool.false_eq_true,if_false]
   exact ⟨_,hp.bind (Ev.now _)⟩
  | true =>
   simp only [if_true]
   cases hi:iv p with
   | false=>exact ⟨_,hp.bind (ev_e (by rw [hi];decide) (Ev.now _))⟩
   | true =>
    by_cases h0:p.toList = ([48]:List UInt8)
    ·exact ⟨_,hp.bind (ev_t hi (ev_t h0 (Ev.now _)))⟩
    ·cases hn:nv q with
     | false=>exact ⟨_,hp.bind (ev_t hi (ev_e h0 (hq.bind (ev_e (by rw [hn];decide) (Ev.now _)))))⟩
     | true =>
      by_cases q0:q.toList = ([48]:List UInt8)
      ·exact ⟨_,hp.bind (ev_t hi (ev_e h0 (hq.bind (ev_t hn (ev_t q0 (Ev.now _))))))⟩
      ·by_cases q1:q.toList = ([49]:List UInt8)
       ·exact ⟨_,hp.bind (ev_t hi (ev_e h0 (hq.bind (ev_t hn (ev_e q0 (ev_t q1 (Ev.now _)))))))⟩
       ·obtain ⟨g,hg⟩:=divisor_ex p q s1 s2
        exact ⟨_,hp.bind (ev_t hi (ev_e h0 (hq.bind (ev_t hn (ev_e q0 (ev_e q1 (hg.bind (Ev.now _))))))))⟩
 obtain ⟨r,hr⟩:=key
 exact ⟨r.2.2,hr.bind (Ev.now _)⟩
end Go.Proofs.YtcmbggahndfnnaaGreatDoor.Pr
set_option linter.unusedVariables false
set_option linter.unusedSimpArgs false
namespace Go.Proofs.YtcmbggahndfnnaaGreatDoor.Pr
open Go.RowKit Go.Lib Go.Proofs.YtcmbggahndfnnaaGreatDoorW.PrintWords Go.Proofs.YtcmbggahndfnnaaGreatDoorW.PrintLast Go.Proofs.YtcmbggahndfnnaaGreatDoorW.PrintMore Go.Proofs.YtcmbggahndfnnaaGreatDoor.NatTh
theorem short_loop:∀ (m:Nat) (n:Int) (acc:List Int),n < 128 ^ (m + 1)→acc.length + m < 100→∃ t,Ev (fun k=>record_short.l0 k n acc) t∧t.size≤acc.length + m + 1:=by
 intro m
 induction m with
 | zero =>
  intro n acc hn hl
  refine ⟨strOfNums (acc ++ [n % 256]),Ev.step (fun k=>by rw [record_short.l0,if_neg (by simp at hn;omega),if_pos (by omega)]) (Ev.now _),?_⟩
  rw [strOfNums_size,List.length_append]
  simp
 | succ m ih =>
  intro n acc hn hl
  by_cases h:n ≥ 128
  ·obtain ⟨t,h1,h2⟩:=ih (n / 128) (acc ++ [Go.bits .or .u8 (n % 256) 128]) (Int.ediv_lt_of_lt_mul (by decide) (by rw [← Int.pow_succ];exact hn)) (by rw [List.length_append];simp;omega)
   refine ⟨t,Ev.step (fun k=>by rw [record_short.l0,if_pos h,if_pos (by omega)]) h1,?_⟩
   rw [List.length_append] at h2
   simp at h2
   omega
  ·refine ⟨strOfNums (acc ++ [n % 256]),Ev.step (fun k=>by rw [record_short.l0,if_neg h,if_pos (by omega)]) (Ev.now _),?_⟩
   rw [strOfNums_size,List.length_append]
   simp
theorem short_ex (n:Int) (h:n < 9223372036854775808):∃ t,Ev (fun k=>record_short.f k n) t∧t.size≤10:=by
 obtain ⟨t,h1,h2⟩:=short_loop 9 n [] (Int.lt_of_lt_of_le h (by decide)) (by simp)
 exact ⟨t,h1,by simpa using h2⟩
theorem wrap_lt (x:Int):wrap64 x < 9223372036854775808:=by unfold wrap64;omega
theorem signed_ex (n:Int):∃ t,Ev (fun k=>record_signed.f k n) t∧t.size≤10:=by
 unfold record_signed.f
 by_cases h:n < 0
 ·obtain ⟨t,h1,h2⟩:=short_ex (wrap64 (wrap64 (-2 * n) - 1)) (wrap_lt _)
  exact ⟨t,ev_t h (h1.bind (Ev.now _)),h2⟩
 ·obtain ⟨t,h1,h2⟩:=short_ex (wrap64 (2 * n)) (wrap_lt _)
  exact ⟨t,ev_e h (h1.bind (Ev.now _)),h2⟩
theorem encN_ex:∀ (l:List Int) (acc:List UInt8),acc.length + 10 * l.length≤mostB→∃ L,Ev (fun k=>encN k acc l) L∧L.length≤acc.length + 10 * l.length
 | [],acc,_=>⟨acc,Ev.now _,by simp⟩
 | n :: l,acc,h=>by
  obtain ⟨t,h1,h2⟩:=signed_ex n
  have hl:t.data.toList.length = t.size:=rfl
  rw [List.length_cons] at h
  obtain ⟨L,h3,h4⟩:=encN_ex l (acc ++ t.data.toList) (by rw [List.length_append,hl];omega)
  rw [List.length_append,hl] at h4
  refine ⟨L,?_,by rw [List.length_cons];omega⟩
  simp only [encN]
  exact h1.bind (ev_t (by omega) h3)
theorem strsG_ex (S:Nat) (hS:S≤100000):∀ (l:List ByteArray) (acc:List UInt8),(∀ x ∈ l,x.size≤S)→acc.length + (10 + S) * l.length≤mostB→∃ L,Ev (fun k=>strsG k acc l) L∧L.length≤acc.length + (10 + S) * l.length
 | [],acc,_,_=>⟨acc,Ev.now _,by simp⟩
 | x :: l,acc,hx,h=>by
  have hs:=hx x (List.mem_cons_self ..)
  obtain ⟨t,h1,h2⟩:=short_ex (x.size:Int) (by omega)
  have hl:t.data.toList.length = t.size:=rfl
  have hl2:x.data.toList.length = x.size:=rfl
  rw [List.length_cons,Nat.mul_add,Nat.mul_one] at h
  obtain ⟨L,h3,h4⟩:=strsG_ex S hS l (acc ++ (t.data.toList ++ x.data.toList)) (fun y hy=>hx y (List.mem_cons_of_mem _ hy)) (by rw [List.length_append,List.length_append,hl,hl2];omega)
  rw [List.length_append,List.length_append,hl,hl2] at h4
  refine ⟨L,?_,by rw [List.length_cons,Nat.mul_add,Nat.mul_one];omega⟩
  simp only [strsG]
  exact h1.bind (ev_t (by unfold mostB at h;omega) h3)
theorem strs_ex (S:Nat) (hS:S≤100000) (l:List ByteArray) (hl:l.length≤100000) (hx:∀ x ∈ l,x.size≤S):∃ t,Ev (fun k=>record_strs.f k l) t∧t.size≤(10 + S) * l.length:=by
 have hm:(10 + S) * l.length≤100010 * 100000:=Nat.mul_le_mul (by omega) hl
 obtain ⟨L,h1,h2⟩:=strsG_ex S hS l [] hx (by unfold mostB;simp;omega)
 unfold record_strs.f
 refine ⟨⟨L.toArray⟩,ev_t (by omega) (h1.bind (Ev.now _)),?_⟩
 show L.toArray.size≤_
 simpa using h2
theorem encR_ex (S:Nat) (hS:S≤100000):∀ (l:List ByteArray) (acc:List UInt8),(∀ x ∈ l,x.size≤S)→acc.length + (10 + S) * l.length≤mostB→∃ L,Ev (fun k=>encR k acc l) L∧L.length≤acc.length + (10 + S) * l.length
 | [],acc,_,_=>⟨acc,Ev.now _,by simp⟩
 | x :: l,acc,hx,h=>by
  obtain ⟨t,h1,h2⟩:=strs_ex S hS [x] (by simp) (fun y hy=>hx y (by rw [List.mem_singleton.1 hy];exact List.mem_cons_self ..))
  have hl:t.data.toList.length = t.size:=rfl
  simp only [List.length_singleton,Nat.mul_one] at h2
  rw [List.length_cons,Nat.mul_add,Nat.mul_one] at h
  obtain ⟨L,h3,h4⟩:=encR_ex S hS l (acc ++ t.data.toList) (fun y hy=>hx y (List.mem_cons_of_mem _ hy)) (by rw [List.length_append,hl];omega)
  rw [List.length_append,hl] at h4
  refine ⟨L,?_,by rw [List.length_cons,Nat.mul_add,Nat.mul_one];omega⟩
  simp only [encR]
  exact h1.bind (ev_t (by omega) h3)
theorem build_ex (a0 a1 a2:Int) (l3:List Int) (l4 l5:List ByteArray) (h0:a0 < 9223372036854775808) (h1:a1 < 9223372036854775808) (h2:a2 < 9223372036854775808)
  (n3:l3.length≤64) (n4:l4.length≤64) (n5:l5.length≤16) (s4:∀ x ∈ l4,x.size≤200) (s5:∀ x ∈ l5,x.size≤4096):∃ t,Ev (fun k=>strings_Builder_Len.f k a0 a1 a2 l3 l4 l5) t:=by
 obtain ⟨t0,e0,b0⟩:=short_ex a0 h0
 obtain ⟨t1,e1,b1⟩:=short_ex a1 h1
 obtain ⟨t2,e2,b2⟩:=short_ex a2 h2
 obtain ⟨t3,e3,b3⟩:=short_ex (l3.length:Int) (by omega)
 have hz:(t0 ++ t1 ++ t2 ++ t3).data.toList.length = t0.size + t1.size + t2.size + t3.size:=by
  show (t0 ++ t1 ++ t2 ++ t3).size = _
  simp only [ByteArray.size_append]
 obtain ⟨L1,e4,b4⟩:=encN_ex l3 (t0 ++ t1 ++ t2 ++ t3).data.toList (by rw [hz];unfold mostB;omega)
 rw [hz] at b4
 obtain ⟨t4,e5,b5⟩:=short_ex (l4.length:Int) (by omega)
 have hl4:t4.data.toList.length = t4.size:=rfl
 obtain ⟨L2,e6,b6⟩:=encR_ex 200 (by omega) l4 (L1 ++ t4.data.toList) s4 (by rw [List.length_append,hl4];unfold mostB;omega)
 rw [List.length_append,hl4] at b6
 obtain ⟨t5,e7,b7⟩:=short_ex (l5.length:Int) (by omega)
 obtain ⟨t6,e8,b8⟩:=strs_ex 4096 (by omega) l5 (by omega) s5
 unfold strings_Builder_Len.f
 exact ⟨_,e0.bind (e1.bind (e2.bind (e3.bind (ev_t (by unfold mostB;omega) (e4.bind (e5.bind (ev_t (by unfold mostB;omega) (e6.bind (e7.bind (e8.bind (ev_t (by unfold mostB;omega) (Ev.now _))))))))))))⟩
open Classical in
theorem enc4_ex (l:List ByteArray) (hs:∀ x ∈ l,x.size≤200):∃ b,Ev (fun k=>record_Encode_4.f k l) b:=by
 have key:∃ K:Nat,∃ v:ByteArray→Bool,∀ k,K≤k→∀ x ∈ l,rational_Valid.f k x = some (v x):=by
  induction l with
  | nil=>exact ⟨0,fun _=>false,fun _ _ _ h=>by cases h⟩
  | cons x l ih =>
   obtain ⟨K,v,hK⟩:=ih (fun y hy=>hs y (List.mem_cons_of_mem _ hy))
   obtain ⟨b,K2,hb⟩:=valid_ex x (by have:=hs x (List.mem_cons_self ..);unfold Sh;omega)
   refine ⟨max K K2,fun y=>if y ∈ l then v y else b,fun k hk y hy=>?_⟩
   by_cases hm:y ∈ l
   ·dsimp only;rw [if_pos hm];exact hK k (by omega) y hm
   ·dsimp only;rw [if_neg hm]
    rcases List.mem_cons.1 hy with rfl|h
    ·exact hb k (by omega)
    ·exact absurd h hm
 obtain ⟨K,v,hK⟩:=key
 refine ⟨l.any fun x=>!v x,K,fun k hk=>?_⟩
 unfold record_Encode_4.f
 dsimp only
 rw [if_pos (by rw [List.all_eq_true];intro x hx;rw [hK k hk x hx];rfl)]
 congr 1
 rw [Bool.eq_iff_iff,List.any_eq_true,List.any_eq_true]
 constructor
 ·rintro ⟨x,hx,h⟩
  refine ⟨x,hx,?_⟩
  rw [hK k hk x hx] at h
  cases hv:v x<;>rw [hv] at h<;>first|rfl|cases h
 ·rintro ⟨x,hx,h⟩
  refine ⟨x,hx,?_⟩
  rw [hK k hk x hx]
  cases hv:v x<;>rw [hv] at h<;>first|rfl|cases h
theorem encj1_ex (x:Bool) (a0 a1 a2:Int) (l3:List Int) (l4 l5:List ByteArray) (h0:x = false→a0 < 9223372036854775808∧a1 < 9223372036854775808∧a2 < 9223372036854775808)
  (n3:l3.length≤64) (n4:l4.length≤64) (n5:l5.length≤16) (s4:∀ x ∈ l4,x.size≤200) (s5:∀ x ∈ l5,x.size≤4096):∃ r,Ev (fun k=>record_Encode.j1 k x a0 a1 a2 l3 l4 l5) r:=by
 cases x with
 | true=>exact ⟨_,Ev.step (fun k=>by rw [record_Encode.j1,if_pos rfl]) (Ev.now _)⟩
 | false =>
  obtain ⟨b0,b1,b2⟩:=h0 rfl
  obtain ⟨b,hb⟩:=enc4_ex l4 s4
  obtain ⟨t,ht⟩:=build_ex a0 a1 a2 l3 l4 l5 b0 b1 b2 n3 n4 n5 s4 s5
  have hz:Ev (fun n=>(strings_Builder_Len.f n a0 a1 a2 l3 l4 l5).bind fun t223=>some (t223,(0:Int))) (t,0):=ht.bind (f:=fun _ t223=>some (t223,(0:Int))) (Ev.now _)
  cases hc:b with
  | true=>exact ⟨_,Ev.step (fun k=>by rw [record_Encode.j1,if_neg (by decide)]) (hb.bind (ev_t hc (Ev.now _)))⟩
  | false=>exact ⟨(t,0),Ev.step (fun k=>by rw [record_Encode.j1,if_neg (by decide)]) (hb.bind (ev_e (c:=b = true) (by rw [hc];decide) hz))⟩
theorem encj0_ex (x:Bool) (a0 a1 a2:Int) (l3:List Int) (l4 l5:List ByteArray) (h:x = false→l3.length≤64∧l4.length≤64∧l5.length≤16∧(∀ x ∈ l4,x.size≤200)∧(∀ x ∈ l5,x.size≤4096)):∃ r,Ev (fun k=>record_Encode.j0 k x a0 a1 a2 l3 l4 l5) r:=by
 cases x with
 | true=>exact ⟨_,Ev.step (fun k=>by rw [record_Encode.j0,if_pos rfl]) (Ev.now _)⟩
 | false =>
  obtain ⟨n3,n4,n5,s4,s5⟩:=h rfl
  obtain ⟨r,hr⟩:=encj1_ex true a0 a1 a2 l3 l4 l5 (by intro h;cases h) n3 n4 n5 s4 s5
  have hst:∀ k,record_Encode.j0 (k + 1) false a0 a1 a2 l3 l4 l5 = if a0 < 1 then record_Encode.j1 k true a0 a1 a2 l3 l4 l5 else if a0 > 1073741824 then record_Encode.j1 k true a0 a1 a2 l3 l4 l5 else if a1 < 0 then record_Encode.j1 k true a0 a1 a2 l3 l4 l5 else if a1 > 1073741824 then record_Encode.j1 k true a0 a1 a2 l3 l4 l5 else if a2 < 1 then record_Encode.j1 k true a0 a1 a2 l3 l4 l5 else if a2 > 99 then record_Encode.j1 k true a0 a1 a2 l3 l4 l5 else (record_Encode_3.f l3).bind fun t=>record_Encode.j1 k t a0 a1 a2 l3 l4 l5:=fun k=>by rw [record_Encode.j0,if_neg (by decide)]
  by_cases c1:a0 < 1
  ·exact ⟨r,Ev.step hst (ev_t c1 hr)⟩
  by_cases c2:a0 > 1073741824
  ·exact ⟨r,Ev.step hst (ev_e c1 (ev_t c2 hr))⟩
  by_cases c3:a1 < 0
  ·exact ⟨r,Ev.step hst (ev_e c1 (ev_e c2 (ev_t c3 hr)))⟩
  by_cases c4:a1 > 1073741824
  ·exact ⟨r,Ev.step hst (ev_e c1 (ev_e c2 (ev_e c3 (ev_t c4 hr))))⟩
  by_cases c5:a2 < 1
  ·exact ⟨r,Ev.step hst (ev_e c1 (ev_e c2 (ev_e c3 (ev_e c4 (ev_t c5 hr)))))⟩
  by_cases c6:a2 > 99
  ·exact ⟨r,Ev.step hst (ev_e c1 (ev_e c2 (ev_e c3 (ev_e c4 (ev_e c5 (ev_t c6 hr))))))⟩
  obtain ⟨r2,hr2⟩:=encj1_ex (l3.any fun x=>decide (x < -1099511627776) || decide (1099511627776 < x)) a0 a1 a2 l3 l4 l5 (fun _=>by omega) n3 n4 n5 s4 s5
  exact ⟨r2,Ev.step hst (ev_e c1 (ev_e c2 (ev_e c3 (ev_e c4 (ev_e c5 (ev_e c6 ((Ev.now _).bind hr2)))))))⟩
theorem encode_ex (a0 a1 a2:Int) (l3:List Int) (l4 l5:List ByteArray):∃ r,Ev (fun k=>record_Encode.f k a0 a1 a2 l3 l4 l5) r:=by
 obtain ⟨r,hr⟩:=encj0_ex true a0 a1 a2 l3 l4 l5 (by intro h;cases h)
 unfold record_Encode.f
 by_cases c1:(l3.length:Int) > 64
 ·exact ⟨r,ev_t c1 hr⟩
 by_cases c2:(l4.length:Int) > 64
 ·exact ⟨r,ev_e c1 (ev_t c2 hr)⟩
 by_cases c3:(l5.length:Int) > 16
 ·exact ⟨r,ev_e c1 (ev_e c2 (ev_t c3 hr))⟩
 cases h1:(l4.any fun x=>decide (200 < x.size)) with
 | true=>exact ⟨r,ev_e c1 (ev_e c2 (ev_e c3 ((Ev.now _).bind (ev_t h1 hr))))⟩
 | false =>
  have s4:∀ x ∈ l4,x.size≤200:=fun x hx=>by
   have:=List.any_eq_false.1 h1 x hx
   simpa using this
  obtain ⟨r2,hr2⟩:=encj0_ex (l5.any fun x=>decide (4096 < x.size)) a0 a1 a2 l3 l4 l5 (fun h2=>⟨by omega,by omega,by omega,s4,fun x hx=>by
   have:=List.any_eq_false.1 h2 x hx
   simpa using this⟩)
  exact ⟨r2,ev_e c1 (ev_e c2 (ev_e c3 ((Ev.now _).bind (ev_e (c:=(l4.any fun x=>decide (200 < x.size)) = true) (by rw [h1];decide) ((Ev.now _).bind hr2)))))⟩
end Go.Proofs.YtcmbggahndfnnaaGreatDoor.Pr
set_option linter.unusedVariables false
set_option linter.unusedSimpArgs false
namespace Go.Proofs.YtcmbggahndfnnaaGreatDoor.Pr
open Go.RowKit Go.Lib Go.Proofs.YtcmbggahndfnnaaGreatDoorW.PrintWords Go.Proofs.YtcmbggahndfnnaaGreatDoorW.PrintLast Go.Proofs.YtcmbggahndfnnaaGreatDoorW.PrintMore Go.Proofs.YtcmbggahndfnnaaGreatDoor.NatTh
theorem ne_pos {s:ByteArray} (h:(s.toList != ([]:List UInt8)) = true):0 < s.size:=by
 rw [toL] at h
 rcases Nat.eq_zero_or_pos s.size with h0|h0
 ·have h1:bs s = []:=List.length_eq_zero_iff.1 (by rw [bs_length,h0])
  rw [h1] at h
  cases h
 ·exact h0
theorem rshort_loop:∀ (m:Nat) (n x4:Int) (s:ByteArray) (b:Bool),m≤9→x4 = 7 * (9 - (m:Int))→∃ r,Ev (fun k=>record_reader_short.l0 k n x4 s b) r∧0≤r.1:=by
 intro m
 induction m with
 | zero =>
  intro n x4 s b _ hx
  exact ⟨(0,s,true),Ev.step (fun k=>by rw [record_reader_short.l0,if_neg (by omega)]) (Ev.step (fun k=>by rw [record_reader_short.j1,if_neg (by decide)]) (Ev.now _)),Int.le_refl _⟩
 | succ m ih =>
  intro n x4 s b hm hx
  have hst:∀ k,record_reader_short.l0 (k + 1) n x4 s b = record_reader_short.j1 k n x4 (s.toList != ([]:List UInt8)) s b:=fun k=>by rw [record_reader_short.l0,if_pos (by omega)]
  cases hc:(s.toList != ([]:List UInt8)) with
  | false=>exact ⟨(0,s,true),Ev.step (fun k=>(hst k).trans (by rw [hc])) (Ev.step (fun k=>by rw [record_reader_short.j1,if_neg (by decide)]) (Ev.now _)),Int.le_refl _⟩
  | true =>
   have hs:=ne_pos hc
   generalize hv:Go.bits .or .i64 n (shl .i64 (wrap64 (Go.bits .and .u8 (bt s 0) 127)) x4) = v
   obtain ⟨r3,h3,p3⟩:=ih v (wrap64 (x4 + 7)) (s.extract 1 s.size) b (by omega) (by unfold wrap64;omega)
   have hj:∀ k,record_reader_short.j1 (k + 1) n x4 true s b = if (bt s 0) < 128 then (if (bt s 0) = 0 then (if x4 > 0 then some (0,s.extract 1 s.size,true) else (if v < 0 then some (0,s.extract 1 s.size,true) else some (v,s.extract 1 s.size,b))) else (if v < 0 then some (0,s.extract 1 s.size,true) else some (v,s.extract 1 s.size,b))) else record_reader_short.l0 k v (wrap64 (x4 + 7)) (s.extract 1 s.size) b:=fun k=>by
    rw [record_reader_short.j1,if_pos rfl,if_pos (by omega),if_pos (by omega),if_pos (by omega),hv]
   have hst2:∀ k,record_reader_short.l0 (k + 1) n x4 s b = record_reader_short.j1 k n x4 true s b:=fun k=>(hst k).trans (by rw [hc])
   by_cases c1:(bt s 0) < 128
   ·by_cases c2:(bt s 0) = 0
    ·by_cases c3:x4 > 0
     ·exact ⟨_,Ev.step hst2 (Ev.step hj (ev_t c1 (ev_t c2 (ev_t c3 (Ev.now _))))),Int.le_refl _⟩
     ·by_cases c4:v < 0
      ·exact ⟨_,Ev.step hst2 (Ev.step hj (ev_t c1 (ev_t c2 (ev_e c3 (ev_t c4 (Ev.now _)))))),Int.le_refl _⟩
      ·exact ⟨_,Ev.step hst2 (Ev.step hj (ev_t c1 (ev_t c2 (ev_e c3 (ev_e c4 (Ev.now _)))))),Int.not_lt.1 c4⟩
    ·by_cases c4:v < 0
     ·exact ⟨_,Ev.step hst2 (Ev.step hj (ev_t c1 (ev_e c2 (ev_t c4 (Ev.now _))))),Int.le_refl _⟩
     ·exact ⟨_,Ev.step hst2 (Ev.step hj (ev_t c1 (ev_e c2 (ev_e c4 (Ev.now _))))),Int.not_lt.1 c4⟩
   ·exact ⟨r3,Ev.step hst2 (Ev.step hj (ev_e c1 h3)),p3⟩
theorem rshort_ex (s:ByteArray) (b:Bool):∃ r,Ev (fun k=>record_reader_short.f k s b) r∧0≤r.1:=rshort_loop 9 0 0 s b (Nat.le_refl _) (by omega)
theorem rcount_ex (s:ByteArray) (b:Bool) (most:Int) (hm:0≤most):∃ r,Ev (fun k=>record_reader_count.f k s b most) r∧0≤r.1∧r.1≤most:=by
 obtain ⟨r,h,p⟩:=rshort_ex s b
 unfold record_reader_count.f
 by_cases c:r.1 > most
 ·exact ⟨_,h.bind (ev_t c (Ev.now _)),Int.le_refl _,hm⟩
 ·exact ⟨_,h.bind (ev_e c (Ev.now _)),p,Int.not_lt.1 c⟩
theorem rbytes_ex (s:ByteArray) (b:Bool):∃ r,Ev (fun k=>record_reader_bytes.f k s b) r:=by
 obtain ⟨r,h,p⟩:=rshort_ex s b
 unfold record_reader_bytes.f
 by_cases c:r.2.2 = true
 ·exact ⟨_,h.bind (ev_t c (Ev.now _))⟩
 ·by_cases c2:r.1 > (r.2.1.size:Int)
  ·exact ⟨_,h.bind (ev_e c (ev_t c2 (Ev.now _)))⟩
  ·exact ⟨_,h.bind (ev_e c (ev_e c2 (ev_t p (ev_t (Int.not_lt.1 c2) (Ev.now _)))))⟩
abbrev DecT:=Int × Int × Int × List Int × List ByteArray × List ByteArray × Int
def DecP (a:ByteArray) (r:DecT):Prop :=
 r = (0,0,0,[],[],[],13) ∨ (r.2.2.2.2.2.2 = 0∧∃ t:ByteArray,t.toList = a.toList∧Ev (fun k=>record_Encode.f k r.1 r.2.1 r.2.2.1 r.2.2.2.1 r.2.2.2.2.1 r.2.2.2.2.2.1) (t,0))
theorem dec2 (a:ByteArray) (x52:Int) (hx:x52≤64) (i t kd:Int) (l3:List Int) (l4:List ByteArray):∀ (m:Nat) (x53:Int) (s:ByteArray) (b:Bool) (l5:List ByteArray),x52 - x53≤m→0≤x53→x53≤64→(l5.length:Int)≤x53 →
  ∃ r,Ev (fun k=>record_Decode.l2 k a x52 x53 s b i t kd l3 l4 l5) r∧DecP a r:=by
 have tail:∀ (x53:Int) (s:ByteArray) (b:Bool) (l5:List ByteArray),¬ x53 < x52→∃ r,Ev (fun k=>record_Decode.l2 k a x52 x53 s b i t kd l3 l4 l5) r∧DecP a r:=by
  intro x53 s b l5 hn
  obtain ⟨e,he⟩:=encode_ex i t kd l3 l4 l5
  have hst:∀ k,record_Decode.l2 (k + 1) a x52 x53 s b i t kd l3 l4 l5 = (record_Encode.f k i t kd l3 l4 l5).bind fun bt299=>(if b = true then (some (0,0,0,([]:List Int),([]:List ByteArray),([]:List ByteArray),13)) else (if s.toList = ([]:List UInt8) then (if bt299.2 = 0 then (if bt299.1.toList = a.toList then (some (i,t,kd,l3,l4,l5,0)) else (some (0,0,0,([]:List Int),([]:List ByteArray),([]:List ByteArray),13))) else (some (0,0,0,([]:List Int),([]:List ByteArray),([]:List ByteArray),13))) else (some (0,0,0,([]:List Int),([]:List ByteArray),([]:List ByteArray),13)))):=fun k=>by rw [record_Decode.l2,if_neg hn]
  by_cases c1:b = true
  ·exact ⟨_,Ev.step hst (he.bind (ev_t c1 (Ev.now _))),Or.inl rfl⟩
  by_cases c2:s.toList = ([]:List UInt8)
  ·by_cases c3:e.2 = 0
   ·by_cases c4:e.1.toList = a.toList
    ·refine ⟨(i,t,kd,l3,l4,l5,0),Ev.step hst (he.bind (ev_e c1 (ev_t c2 (ev_t c3 (ev_t c4 (Ev.now _)))))),Or.inr ⟨rfl,e.1,c4,?_⟩⟩
     rw [← c3]
     exact he
    ·exact ⟨_,Ev.step hst (he.bind (ev_e c1 (ev_t c2 (ev_t c3 (ev_e c4 (Ev.now _)))))),Or.inl rfl⟩
   ·exact ⟨_,Ev.step hst (he.bind (ev_e c1 (ev_t c2 (ev_e c3 (Ev.now _))))),Or.inl rfl⟩
  ·exact ⟨_,Ev.step hst (he.bind (ev_e c1 (ev_e c2 (Ev.now _)))),Or.inl rfl⟩
 intro m
 induction m with
 | zero=>intro x53 s b l5 h1 h2 h3 h4;exact tail x53 s b l5 (by omega)
 | succ m ih =>
  intro x53 s b l5 h1 h2 h3 h4
  by_cases c:x53 < x52
  ·obtain ⟨q,hq⟩:=rbytes_ex s b
   have hlen:l5.length < 8796093022208:=by omega
   have hw:wrap64 (x53 + 1) = x53 + 1:=by unfold wrap64;omega
   obtain ⟨r,hr,hp⟩:=ih (x53 + 1) q.2.1 q.2.2 (l5 ++ [q.1]) (by omega) (by omega) (by omega) (by rw [List.length_append,List.length_singleton];omega)
   rw [← hw] at hr
   exact ⟨r,Ev.step (fun k=>by rw [record_Decode.l2,if_pos c]) (hq.bind (ev_t hlen hr)),hp⟩
  ·exact tail x53 s b l5 c
theorem dec1 (a:ByteArray) (x40:Int) (hx:x40≤64) (i t kd:Int) (l3:List Int):∀ (m:Nat) (x41:Int) (s:ByteArray) (b:Bool) (l4:List ByteArray),x40 - x41≤m→0≤x41→x41≤64→(l4.length:Int)≤x41 →
  ∃ r,Ev (fun k=>record_Decode.l1 k a x40 x41 s b i t kd l3 l4) r∧DecP a r:=by
 have tail:∀ (x41:Int) (s:ByteArray) (b:Bool) (l4:List ByteArray),¬ x41 < x40→∃ r,Ev (fun k=>record_Decode.l1 k a x40 x41 s b i t kd l3 l4) r∧DecP a r:=by
  intro x41 s b l4 hn
  obtain ⟨c,hc,c0,c1⟩:=rcount_ex s b 16 (by decide)
  obtain ⟨r,hr,hp⟩:=dec2 a c.1 (by omega) i t kd l3 l4 c.1.toNat 0 c.2.1 c.2.2 [] (by omega) (by omega) (by omega) (by simp)
  exact ⟨r,Ev.step (fun k=>by rw [record_Decode.l1,if_neg hn]) (hc.bind hr),hp⟩
 intro m
 induction m with
 | zero=>intro x41 s b l4 h1 h2 h3 h4;exact tail x41 s b l4 (by omega)
 | succ m ih =>
  intro x41 s b l4 h1 h2 h3 h4
  by_cases c:x41 < x40
  ·obtain ⟨q,hq⟩:=rbytes_ex s b
   have hlen:l4.length < 8796093022208:=by omega
   have hw:wrap64 (x41 + 1) = x41 + 1:=by unfold wrap64;omega
   obtain ⟨r,hr,hp⟩:=ih (x41 + 1) q.2.1 q.2.2 (l4 ++ [q.1]) (by omega) (by omega) (by omega) (by rw [List.length_append,List.length_singleton];omega)
   rw [← hw] at hr
   exact ⟨r,Ev.step (fun k=>by rw [record_Decode.l1,if_pos c]) (hq.bind (ev_t hlen hr)),hp⟩
  ·exact tail x41 s b l4 c
theorem dec0 (a:ByteArray) (x20:Int) (hx:x20≤64) (i t kd:Int):∀ (m:Nat) (x21:Int) (s:ByteArray) (b:Bool) (l3:List Int),x20 - x21≤m→0≤x21→x21≤64→(l3.length:Int)≤x21 →
  ∃ r,Ev (fun k=>record_Decode.l0 k a x20 x21 s b i t kd l3) r∧DecP a r:=by
 have tail:∀ (x21:Int) (s:ByteArray) (b:Bool) (l3:List Int),¬ x21 < x20→∃ r,Ev (fun k=>record_Decode.l0 k a x20 x21 s b i t kd l3) r∧DecP a r:=by
  intro x21 s b l3 hn
  obtain ⟨c,hc,c0,c1⟩:=rcount_ex s b 64 (by decide)
  obtain ⟨r,hr,hp⟩:=dec1 a c.1 (by omega) i t kd l3 c.1.toNat 0 c.2.1 c.2.2 [] (by omega) (by omega) (by omega) (by simp)
  exact ⟨r,Ev.step (fun k=>by rw [record_Decode.l0,if_neg hn]) (hc.bind hr),hp⟩
 intro m
 induction m with
 | zero=>intro x21 s b l3 h1 h2 h3 h4;exact tail x21 s b l3 (by omega)
 | succ m ih =>
  intro x21 s b l3 h1 h2 h3 h4
  by_cases c:x21 < x20
  ·obtain ⟨q,hq,_⟩:=rshort_ex s b
   have hlen:l3.length < 17592186044416:=by omega
   have hw:wrap64 (x21 + 1) = x21 + 1:=by unfold wrap64;omega
   by_cases c2:(Go.bits .and .i64 q.1 1) = 1
   ·obtain ⟨r,hr,hp⟩:=ih (x21 + 1) q.2.1 q.2.2 (l3 ++ [wrap64 (Int.tdiv (wrap64 ((wrap64 (-q.1)) - 1)) 2)]) (by omega) (by omega) (by omega) (by rw [List.length_append,List.length_singleton];omega)
    rw [← hw] at hr
    exact ⟨r,Ev.step (fun k=>by rw [record_Decode.l0,if_pos c]) (hq.bind (ev_t c2 (ev_t hlen hr))),hp⟩
   ·obtain ⟨r,hr,hp⟩:=ih (x21 + 1) q.2.1 q.2.2 (l3 ++ [wrap64 (Int.tdiv q.1 2)]) (by omega) (by omega) (by omega) (by rw [List.length_append,List.length_singleton];omega)
    rw [← hw] at hr
    exact ⟨r,Ev.step (fun k=>by rw [record_Decode.l0,if_pos c]) (hq.bind (ev_e c2 (ev_t hlen hr))),hp⟩
  ·exact tail x21 s b l3 c
theorem decode_ex (a:ByteArray):∃ r,Ev (fun k=>record_Decode.f k a) r∧DecP a r:=by
 obtain ⟨q1,h1,_⟩:=rshort_ex a false
 obtain ⟨q2,h2,_⟩:=rshort_ex q1.2.1 q1.2.2
 obtain ⟨q3,h3,_⟩:=rshort_ex q2.2.1 q2.2.2
 obtain ⟨c,hc,c0,c1⟩:=rcount_ex q3.2.1 q3.2.2 64 (by decide)
 obtain ⟨r,hr,hp⟩:=dec0 a c.1 c1 q1.1 q2.1 q3.1 c.1.toNat 0 c.2.1 c.2.2 [] (by omega) (by omega) (by omega) (by simp)
 refine ⟨r,?_,hp⟩
 unfold record_Decode.f
 exact (Ev.now (a,false)).bind (h1.bind (h2.bind (h3.bind (hc.bind hr))))
end Go.Proofs.YtcmbggahndfnnaaGreatDoor.Pr
set_option linter.unusedVariables false
set_option linter.unusedSimpArgs false
namespace Go.Proofs.YtcmbggahndfnnaaGreatDoor.Pr
open Go.RowKit Go.Lib Go.Proofs.YtcmbggahndfnnaaGreatDoorW.PrintWords Go.Proofs.YtcmbggahndfnnaaGreatDoorW.PrintLast Go.Proofs.YtcmbggahndfnnaaGreatDoorW.PrintMore
theorem awake_ev:Ev (fun k=>garboardlaw57_awake.f k) true:=⟨20,fun _ h=>awake_on h⟩
theorem same_nil:Ev (fun k=>garboardref57_SameEvent.f k 0 0 0 [] [] [] 0 0 0 [] [] []) true:=Ev.of (garboardref57_SameEvent.mono 0 0 0 [] [] [] 0 0 0 [] [] []) (k:=8) (by kernel_rfl)
theorem Exact_law (a0:ByteArray):Ev (fun k=>garboardlaw57_RecordExact.f k a0) true:=by
 unfold garboardlaw57_RecordExact.f
 refine awake_ev.bind (ev_t rfl ?_)
 by_cases c:(a0.size:Int) > 1000
 ·exact ev_t c (Ev.now _)
 refine ev_e c ?_
 obtain ⟨r,hr,hp⟩:=decode_ex a0
 rcases hp with rfl|⟨h0,t,ht,he⟩
 ·exact hr.bind (ev_e (by decide) (ev_t rfl (same_nil.bind (Ev.now _))))
 ·refine hr.bind (ev_t h0 (he.bind (ev_t rfl ?_)))
  rw [ht,beq_self_eq_true]
  exact Ev.now _
end Go.Proofs.YtcmbggahndfnnaaGreatDoor.Pr
namespace Go.Proofs.YtcmbggahndfnnaaGreatDoor.Pr
set_option linter.unusedVariables false
set_option linter.unusedSimpArgs false
open Go.ChangeShapes Go.WideShapes Go.ChangeAt Go.RowKit Go.Proofs.YtcmbggahndfnnaaGreatDoorW.PrintWords
set_option maxRecDepth 100000 in
theorem recordExact_lifted (os:Os) (started:os.Started) (H:Type) (enc:TypeId × Value→H) :
  ReturnsInHanded {} Tryz.checked os 6 .any (fun w args=>(Rows.recordExactSpec.pre enc Tryz.prog Tryz.f6 [] false w args∧laidMetH Tryz.prog laid5 w)∧sizedMet enc Tryz.prog Tryz.f6 (OpenSpec.ofChange Rows.recordExactSpec) false w args)
   (Rows.recordExactSpec.post enc Tryz.prog Tryz.f6 false true false false):=by
 refine returnsInHanded_of_change_and (C:=Tryz.checked) (X:=fun w _=>laidMetH Tryz.prog laid5 w) (fun _ _ _ hh h=>h.of_heap hh) own started (by kernel_rfl) Tryz.func6
  (ChangeSpec.witness_shaped (enc:=enc) (C:=Tryz.checked) (os:=os) (X:=fun w _=>laidMetH Tryz.prog laid5 w) false (World.doorLaid Tryz.prog 400 os) #[.string ⟨#[]⟩] 8 rfl (World.shaped_of_RefB (by kernel_rfl) (by kernel_rfl)) (by kernel_rfl) (by kernel_rfl) (by kernel_rfl) (door_met os _)) ?_
 intro W base args ds gs before hval0 hW _ _ hL _
 have hval:∀ (j:Nat) t v,Tryz.f6.params[j]? = some t→args[j]? = some v→Value.okWide Tryz.prog W .any base t v:=hval0
 have hW':=hW
 obtain ⟨p,q,hA0,hV,rfl,hfz,hnd⟩:=hW
 have hA:DataW.TrodAll enc Tryz.prog W 0 (fun _=>true) true Tryz.f6.params.toList args.toList ds p:=hA0
 rw [Tryz.params6] at hA hval
 obtain ⟨v0,vs0,d0,ds0,p0,q0,hargs,rfl,rfl,h0,r0⟩:=trodAll_cons hA
 obtain ⟨rfl,rfl,rfl⟩:=trodAll_nil r0
 obtain rfl:args = #[v0]:=by cases args;simp_all
 obtain ⟨rfl,rfl⟩:=trodVars_none hV
 have lt0:∀ x ∈ p0,x.block < W.heap.size:=by obtain ⟨m,hm⟩:=h0;exact DataW.trod_lt m _ _ _ hm
 have k0:=h0
 obtain ⟨a0,rfl⟩:=openS (hval 0 9 v0 rfl rfl) h0
 have hT:=laid_tab hL
 clear hA0 hval0 hval
 obtain ⟨k,hk⟩:=(Exact_law a0).rounds
 refine (garboardlaw57_RecordExact.calls k a0 true W hT hk rfl).mono fun e W' ⟨he,bel⟩=>?_
 subst he
 exact ⟨_,rfl,_,_,_,[],_,[],hW',trodAll_mk1 (shut_bool Tryz.underlying4 _),(trodAll_cons_mk (Below.trod laidOut (by kernel_rfl) (of_decide_eq_true (by kernel_rfl)) k0 bel lt0) trodAll_mk0),rfl,bel.frame _,fun h=>by cases h⟩
theorem recordExact_row:Rows.RecordExactSaid :=
 OpenClaim.holds_of_wide 6 Tryz.f6 rfl rfl rfl rfl rfl rfl rfl ⟨rfl,rfl,rfl,rfl,rfl⟩ rfl rfl rfl rfl rfl (by kernel_rfl) Tryz.func6 (by kernel_rfl)
  (of_decide_eq_true (by kernel_rfl)) (by unfold Func.isWrapper;first|(rw [if_pos (by decide +kernel)];kernel_rfl)|(rw [if_neg (by decide +kernel)];exact ⟨rfl,rfl⟩))
  (fun os started H enc _=>recordExact_lifted os started H enc)
end Go.Proofs.YtcmbggahndfnnaaGreatDoor.Pr
namespace Go.Proofs.YtcmbggahndfnnaaGreatDoor
open Go
theorem recordExact_card_holds:Rows.RecordExactCardSaid :=
 Claim7.holds_tied_plain_at .later [] [.data,.data,.data,.sentinel,.sentinel] true (true, "530430785d8fc1b95937d3c83c748bc57a44dc57239518a96d9fcf3156f792ad") true
  Pr.recordExact_row (fun _ h=>by cases h) (by kernel_rfl) (fun _ h=>by cases h) recordExact_row_tie rfl ⟨rfl,rfl⟩ (by kernel_rfl) rfl
  (fun f fn hf hfn=>by
   obtain rfl:f = 6:=Option.some.inj ((show Tryz.prog.funcNamed "garboard/garboardlaw57.RecordExact" = some 6 by kernel_rfl).symm.trans hf) |>.symm
   obtain rfl:fn = Tryz.f6:=(Option.some.inj (Tryz.func6.symm.trans hfn)).symm
   exact ⟨by kernel_rfl,fun j t ht=>by
    rw [Tryz.params6] at ht
    have hm:t ∈ [9]:=by simpa using Array.mem_of_getElem? ht
    have hall:([9].all fun u=>!Tryz.prog.wantsStandIn u) = true:=by kernel_rfl
    exact (show Tryz.prog.wantsStandIn t = false by simpa using List.all_eq_true.1 hall t hm)⟩)
  (by kernel_rfl)
end Go.Proofs.YtcmbggahndfnnaaGreatDoor
