/- Part 4 of 6: walks and laws of functions that the last part joins. The words of the print (W..) are the kit's, cut down by program to what is used here. -/
import Derived.Great.BuildSlice
import Derived.StillTailTactics
import Derived.ArgAppend
import Derived.Deep.RegionHeld3
import Derived.Test.YtcmbggahndfnnaaGreatDoorEz3
set_option linter.unusedVariables false
set_option linter.unusedSimpArgs false
namespace Go.Proofs.YtcmbggahndfnnaaGreatDoor.Pr
open Go.RowKit Go.Shelf Go.Lib Go.Proofs.YtcmbggahndfnnaaGreatDoorW.PrintWords Go.Proofs.YtcmbggahndfnnaaGreatDoorW.PrintLast Go.Proofs.YtcmbggahndfnnaaGreatDoorW.PrintMore
def strsG (k:Nat):List UInt8→List ByteArray→Option (List UInt8)
 | acc,[]=>some acc
 | acc,s :: l=>(record_short.f k (s.size:Int)).bind fun t=>if acc.length + (t.size + s.size)≤140737488355328 then strsG k (acc ++ (t.data.toList ++ s.data.toList)) l else none
def record_strs.f (k:Nat) (l:List ByteArray):Option ByteArray:=if l.length≤140737488355328 then (strsG k [] l).bind fun L=>some ⟨L.toArray⟩ else none
theorem strsG_mono (k:Nat):∀ acc l,LeO (strsG k acc l) (strsG (k + 1) acc l)
 | acc,[]=>LeO.refl _
 | acc,s :: l=>by
  unfold strsG
  exact LeO.bind (record_short.mono _ _) fun _=>LeO.ite (strsG_mono k _ l) (LeO.refl _)
theorem record_strs.mono:∀ l k,LeO (record_strs.f k l) (record_strs.f (k + 1) l):=fun l k=>LeO.ite (LeO.bind (strsG_mono k _ l) fun _=>LeO.refl _) (LeO.refl _)
theorem rdOf_drop (l:List ByteArray) (i:Nat) (h:i < l.length):l.drop i = rdOf ByteArray.empty l (i:Int) :: l.drop (i + 1):=by
 rw [List.drop_eq_getElem_cons h]
 congr 1
 simp [rdOf,h]
set_option maxHeartbeats 4000000
set_option maxRecDepth 100000
theorem record_strs.calls (k:Nat) (A0:Option Addr) (c0:Nat) (l0:List ByteArray) (r:ByteArray) (w:World) (hr0:Kd.C Kd.string w A0 l0.length l0) (hc0:l0.length≤c0) (h:record_strs.f k l0 = some r) :
  Calls Tryz.prog 48 #[.slice A0 l0.length c0] w fun e w'=>e = .returned (.string r)∧Below w.heap.size w w':=by
 unfold record_strs.f at h
 by_cases Aa:l0.length≤140737488355328
 case neg=>rw [if_neg Aa] at h;cases h
 rw [if_pos Aa] at h
 obtain ⟨L,hL,h⟩:=Option.bind_eq_some_iff.mp h
 obtain rfl:=Option.some.inj h
 have HL:=Aside0.mk hL
 have HR:=Aside0.mk hr0
 have HLN:=Aside0.mk Aa
 clear hL h hr0 hc0 Aa
 go_enter Tryz.func48,Tryz.ntmps48
 go_wp2_with fail
 have HN:=Aside0.mk (Bld.new (Below.refl w.heap.size w))
 have hg:w.heap.size = w.heap.size:=rfl
 generalize hW:w.alloc (.cells #[.pointer none,.slice none 0 0] 73) = W at HN ⊢
 clear hW hg
 go_loopw [8] (fun v8 w'=>∃ (i:Nat) (acc:List UInt8),v8 = .int .i64 (i:Int)∧i≤l0.length∧Aside0 (strsG k acc (l0.drop i) = some L)∧Aside0 (Bld w w' w.heap.size acc)) (fun v8 _=>l0.length - (RowKit.intOf v8).toNat)
 case atStart=>exact ⟨0,[],rfl,Nat.zero_le _,HL,HN⟩
 case round =>
  obtain ⟨i,acc,rfl,hi,HS,HBd⟩:=hrel
  by_cases hlt:i < l0.length
  ·have hw:wrap64 ((i:Int) + 1) = ((i + 1:Nat):Int):=by have:=HLN.out;unfold wrap64;omega
   have HW:=Aside0.mk hw
   clear hw
   have hs:=HS.out
   rw [rdOf_drop l0 i hlt,strsG] at hs
   obtain ⟨t,ht,hs⟩:=Option.bind_eq_some_iff.mp hs
   by_cases hsz:acc.length + (t.size + (rdOf ByteArray.empty l0 (i:Int)).size)≤140737488355328
   case neg=>rw [if_neg hsz] at hs;cases hs
   rw [if_pos hsz] at hs
   obtain ⟨ad,e,hx⟩:=Kd.at_string HR.out (i:Int) (by omega) (by omega)
   have hb:=HBd.out.below
   replace hx:=(hb.cell (World.block_lt_of_cell? w _ hx)).trans hx
   rw [Int.toNat_natCast] at hx
   cases e
   generalize hsv:rdOf ByteArray.empty l0 (i:Int) = sv at hs hsz hx ht
   have HT:=Aside0.mk ht
   have Af:=Aside0.mk hs
   have HSZ:=Aside0.mk hsz
   clear hs ht hsv HS hb hsz
   have hd:decide ((i:Int) < (l0.length:Int)) = true:=decide_eq_true (by omega)
   have Ae:(sv.size:Int)≤9223372036854775807:=by have:=HSZ.out;omega
   have hts:t.size + sv.size≤9223372036854775807:=by have:=HSZ.out;omega
   go_wp2_with fail
   go_at_call 46
   refine (record_short.calls k _ t _ HT.out).mono ?_
   rintro e W1 ⟨rfl,Ab⟩
   have Ac:=Aside0.mk (HBd.out.kept Ab)
   clear Ab
   go_wp2_with fail
   go_at_call 45
   refine (bld_write _ Ac.out (by rw [ByteArray.size_append];exact HSZ.out)).mono ?_
   rintro e W2 ⟨rfl,Ad,_⟩
   have Ag:=Aside0.mk Ad
   clear Ad
   go_wp2
   go_roundw
   case rel=>exact ⟨i + 1,_,by rw [HW.out],by omega,Af,by have:=Ag;rw [show (t ++ sv).data.toList = t.data.toList ++ sv.data.toList by simp] at this;exact this⟩
   case measure =>
    rw [HW.out]
    simp only [RowKit.intOf,Int.toNat_natCast]
    omega
  ·have hd:decide ((i:Int) < (l0.length:Int)) = false:=decide_eq_false (by omega)
   have hs:=HS.out
   rw [List.drop_eq_nil_of_le (by omega),strsG] at hs
   obtain rfl:=Option.some.inj hs
   clear HS hs
   go_wp2_with fail
   go_at_call 49
   refine (bld_string HBd.out).mono ?_
   rintro e W1 ⟨rfl,Ab⟩
   have Ac:=Aside0.mk Ab
   clear Ab
   go_wp2
   go_ret
   exact ⟨rfl,Ac.out⟩
end Go.Proofs.YtcmbggahndfnnaaGreatDoor.Pr
namespace Go.Proofs.YtcmbggahndfnnaaGreatDoor.Pr
open Go.RowKit Go.Proofs.YtcmbggahndfnnaaGreatDoorW.PrintWords Go.Proofs.YtcmbggahndfnnaaGreatDoorW.PrintLast Go.Proofs.YtcmbggahndfnnaaGreatDoorW.PrintMore
attribute [local go_sem] max2_int min2_int max_two min_two max_three min_three max_four min_four
set_option maxHeartbeats 8000000
set_option maxRecDepth 100000
def record_signed.f (k:Nat) (a0:Int):Option (ByteArray):=if a0 < 0 then ((record_short.f k (wrap64 ((wrap64 ((-2) * a0)) - 1))).bind fun t216=>(some t216)) else ((record_short.f k (wrap64 (2 * a0))).bind fun t217=>(some t217))
theorem record_signed.mono:∀ a0 k,LeO (record_signed.f k a0) (record_signed.f (k + 1) a0):=by intro a0 k;unfold record_signed.f;have:=@record_short.mono;exact mn_
theorem record_signed.calls (k:Nat) (a0:Int) (r:ByteArray) (w:World) (h:record_signed.f k a0 = some r) :
  Calls Tryz.prog 47 #[.int .i64 a0] w fun e w'=>e = .returned (.string r)∧Below w.heap.size w w':=by
 have HB:=Aside0.mk (Below.refl w.heap.size w)
 have H:=h;clear h;unfold record_signed.f at H
 by_cases c2:a0 < 0
 ·rw [if_pos c2] at H
  have Ac:decide (a0 < 0) = true:=decide_eq_true c2
  clear c2
  obtain ⟨Ab,A3,H⟩:=bn_ H
  obtain rfl:=Option.some.inj H
  go_enter Tryz.func47,Tryz.ntmps47
  go_wp2_with (first|((with_reducible refine gate_callee (f:=46) rfl ?_);refine gl_ (some 8) Tryz.func46 #[.int .i64 (wrap64 ((wrap64 ((-2) * a0)) - 1))] (record_short.calls k (wrap64 ((wrap64 ((-2) * a0)) - 1)) Ab _ A3.out) ?_;clear HB;intro w4 hb HB;clear hb))
  go_ret
  exact ⟨rf_,bx_⟩
 ·rw [if_neg c2] at H
  have Ac:decide (a0 < 0) = false:=decide_eq_false c2
  clear c2
  obtain ⟨Aa,A5,H⟩:=bn_ H
  obtain rfl:=Option.some.inj H
  go_enter Tryz.func47,Tryz.ntmps47
  go_wp2_with (first|((with_reducible refine gate_callee (f:=46) rfl ?_);refine gl_ (some 11) Tryz.func46 #[.int .i64 (wrap64 (2 * a0))] (record_short.calls k (wrap64 (2 * a0)) Aa _ A5.out) ?_;clear HB;intro w6 hb HB;clear hb))
  go_ret
  exact ⟨rf_,bx_⟩
open Go.Shelf Go.Lib
def mostB:Nat:=140737488355328
def encN (k:Nat):List UInt8→List Int→Option (List UInt8)
 | acc,[]=>some acc
 | acc,n :: l=>(record_signed.f k n).bind fun t=>if acc.length + t.size≤mostB then encN k (acc ++ t.data.toList) l else none
def encR (k:Nat):List UInt8→List ByteArray→Option (List UInt8)
 | acc,[]=>some acc
 | acc,x :: l=>(record_strs.f k [x]).bind fun t=>if acc.length + t.size≤mostB then encR k (acc ++ t.data.toList) l else none
def strings_Builder_Len.f (k:Nat) (a0 a1 a2:Int) (l3:List Int) (l4 l5:List ByteArray):Option ByteArray :=
 (record_short.f k a0).bind fun t0=>(record_short.f k a1).bind fun t1=>(record_short.f k a2).bind fun t2=>(record_short.f k (l3.length:Int)).bind fun t3 =>
 if t0.size + t1.size + t2.size + t3.size≤mostB∧l3.length≤mostB∧l4.length≤mostB then
  (encN k (t0 ++ t1 ++ t2 ++ t3).data.toList l3).bind fun L1=>(record_short.f k (l4.length:Int)).bind fun t4 =>
  if L1.length + t4.size≤mostB then
   (encR k (L1 ++ t4.data.toList) l4).bind fun L2=>(record_short.f k (l5.length:Int)).bind fun t5=>(record_strs.f k l5).bind fun t6 =>
   if L2.length + (t5.size + t6.size)≤mostB then some ⟨(L2 ++ (t5 ++ t6).data.toList).toArray⟩ else none
  else none
 else none
theorem rd_drop (l:List Int) (i:Nat) (h:i < l.length):l.drop i = rd l (i:Int) :: l.drop (i + 1):=by
 rw [List.drop_eq_getElem_cons h]
 congr 1
 simp [rd,h]
theorem wrap_succ {i n:Nat} (h:i < n) (hn:n≤mostB):wrap64 ((i:Int) + 1) = ((i + 1:Nat):Int):=by unfold mostB at hn;unfold wrap64;omega
theorem C_one (W:World) (x:ByteArray):Kd.C Kd.string (W.alloc (.cells #[.string x] 9)) (some ⟨W.heap.size,0,none⟩) [x].length [x]:=by
 refine ⟨rfl,by simp,fun _=>⟨_,rfl,fun j p hj=>⟨[.string p],rfl,rfl,fun i u hu=>?_⟩⟩⟩
 cases i with
 | zero =>
  have hu':Value.string p = u:=by simpa using hu
  subst hu'
  have Aa:j = 0:=by
   have:=(List.getElem?_eq_some_iff.1 hj).1
   simpa using this
  subst Aa
  have hp:x = p:=by simpa using hj
  subst hp
  show (W.alloc (.cells #[.string x] 9)).cell? ((⟨W.heap.size,0,none⟩:Addr).add (0 * 1 + 0)) = _
  have:(⟨W.heap.size,0,none⟩:Addr).add (0 * 1 + 0) = ⟨W.heap.size,0,none⟩:=by unfold Addr.add;split<;>simp_all
  rw [this,blk_cell (blk_new W _)]
  rfl
 | succ i=>simp at hu
theorem encN_mono (k:Nat):∀ acc l,LeO (encN k acc l) (encN (k + 1) acc l)
 | acc,[]=>LeO.refl _
 | acc,n :: l=>by
  unfold encN
  exact LeO.bind (record_signed.mono _ _) fun _=>LeO.ite (encN_mono k _ l) (LeO.refl _)
theorem encR_mono (k:Nat):∀ acc l,LeO (encR k acc l) (encR (k + 1) acc l)
 | acc,[]=>LeO.refl _
 | acc,n :: l=>by
  unfold encR
  exact LeO.bind (record_strs.mono _ _) fun _=>LeO.ite (encR_mono k _ l) (LeO.refl _)
theorem strings_Builder_Len.mono:∀ a0 a1 a2 l3 l4 l5 k,LeO (strings_Builder_Len.f k a0 a1 a2 l3 l4 l5) (strings_Builder_Len.f (k + 1) a0 a1 a2 l3 l4 l5):=fun _ _ _ _ _ _ _ =>
 LeO.bind (record_short.mono _ _) fun _=>LeO.bind (record_short.mono _ _) fun _=>LeO.bind (record_short.mono _ _) fun _=>LeO.bind (record_short.mono _ _) fun _ =>
 LeO.ite (LeO.bind (encN_mono _ _ _) fun _=>LeO.bind (record_short.mono _ _) fun _=>LeO.ite (LeO.bind (encR_mono _ _ _) fun _=>LeO.bind (record_short.mono _ _) fun _=>LeO.bind (record_strs.mono _ _) fun _=>LeO.refl _) (LeO.refl _)) (LeO.refl _)
end Go.Proofs.YtcmbggahndfnnaaGreatDoor.Pr
namespace Go.Proofs.YtcmbggahndfnnaaGreatDoor.Pr
open Go.RowKit Go.Proofs.YtcmbggahndfnnaaGreatDoorW.PrintWords Go.Proofs.YtcmbggahndfnnaaGreatDoorW.PrintLast Go.Proofs.YtcmbggahndfnnaaGreatDoorW.PrintMore
attribute [local go_sem] max2_int min2_int max_two min_two max_three min_three max_four min_four
set_option maxHeartbeats 8000000
set_option maxRecDepth 100000
mutual
def record_Encode.j0:Nat→Bool→Int→Int→Int→List Int→List ByteArray→List ByteArray→Option (ByteArray × Int)
 | 0,_,_,_,_,_,_,_=>none
 | k + 1,x34,x219000,x219001,x219002,x219003,x219004,x219005=>if x34 = true then (some ((⟨#[]⟩:ByteArray),8)) else (if x219000 < 1 then (record_Encode.j1 k true x219000 x219001 x219002 x219003 x219004 x219005) else (if x219000 > 1073741824 then (record_Encode.j1 k true x219000 x219001 x219002 x219003 x219004 x219005) else (if x219001 < 0 then (record_Encode.j1 k true x219000 x219001 x219002 x219003 x219004 x219005) else (if x219001 > 1073741824 then (record_Encode.j1 k true x219000 x219001 x219002 x219003 x219004 x219005) else (if x219002 < 1 then (record_Encode.j1 k true x219000 x219001 x219002 x219003 x219004 x219005) else (if x219002 > 99 then (record_Encode.j1 k true x219000 x219001 x219002 x219003 x219004 x219005) else ((record_Encode_3.f x219003).bind fun t221=>(record_Encode.j1 k t221 x219000 x219001 x219002 x219003 x219004 x219005))))))))
def record_Encode.j1:Nat→Bool→Int→Int→Int→List Int→List ByteArray→List ByteArray→Option (ByteArray × Int)
 | 0,_,_,_,_,_,_,_=>none
 | k + 1,x67,x219000,x219001,x219002,x219003,x219004,x219005=>if x67 = true then (some ((⟨#[]⟩:ByteArray),2)) else ((record_Encode_4.f k x219004).bind fun t222=>(if t222 = true then (some ((⟨#[]⟩:ByteArray),1)) else ((strings_Builder_Len.f k x219000 x219001 x219002 x219003 x219004 x219005).bind fun t223=>(some (t223,0)))))
end
def record_Encode.f (k:Nat) (a0_0:Int) (a0_1:Int) (a0_2:Int) (l0_3:List Int) (l0_4:List ByteArray) (l0_5:List ByteArray):Option (ByteArray × Int):=if (l0_3.length:Int) > 64 then (record_Encode.j0 k true a0_0 a0_1 a0_2 l0_3 l0_4 l0_5) else (if (l0_4.length:Int) > 64 then (record_Encode.j0 k true a0_0 a0_1 a0_2 l0_3 l0_4 l0_5) else (if (l0_5.length:Int) > 16 then (record_Encode.j0 k true a0_0 a0_1 a0_2 l0_3 l0_4 l0_5) else ((record_Encode_1.f l0_4).bind fun t219=>(if t219 = true then (record_Encode.j0 k true a0_0 a0_1 a0_2 l0_3 l0_4 l0_5) else ((record_Encode_2.f l0_5).bind fun t220=>(record_Encode.j0 k t220 a0_0 a0_1 a0_2 l0_3 l0_4 l0_5))))))
theorem record_Encode.mono_l:∀ k,(∀ y0 y1 y2 y3 y4 y5 y6,LeO (record_Encode.j0 k y0 y1 y2 y3 y4 y5 y6) (record_Encode.j0 (k + 1) y0 y1 y2 y3 y4 y5 y6))∧(∀ y0 y1 y2 y3 y4 y5 y6,LeO (record_Encode.j1 k y0 y1 y2 y3 y4 y5 y6) (record_Encode.j1 (k + 1) y0 y1 y2 y3 y4 y5 y6))
 | 0=>⟨fun _ _ _ _ _ _ _ r h=>by simp [record_Encode.j0] at h,fun _ _ _ _ _ _ _ r h=>by simp [record_Encode.j1] at h⟩
 | k + 1=>by
  obtain ⟨ih0,ih1⟩:=record_Encode.mono_l k
  refine ⟨?_,?_⟩
  ·intro y0 y1 y2 y3 y4 y5 y6
   unfold record_Encode.j0
   repeat' first
   | (with_reducible exact ih0 _ _ _ _ _ _ _)
   | (with_reducible exact ih1 _ _ _ _ _ _ _)
   | (with_reducible exact record_Encode_4.mono _ _)
   | (with_reducible exact strings_Builder_Len.mono _ _ _ _ _ _ _)
   | (with_reducible exact LeO.refl _)
   | (with_reducible exact LeO.none _)
   | (with_reducible refine LeO.ite ?_ ?_)
   | (with_reducible refine LeO.bind ?_ (fun _=>?_))
   | exact ih0 _ _ _ _ _ _ _
   | exact ih1 _ _ _ _ _ _ _
   | exact record_Encode_4.mono _ _
   | exact strings_Builder_Len.mono _ _ _ _ _ _ _
   | exact LeO.none _
   | refine LeO.ite ?_ ?_
   | refine LeO.bind ?_ (fun _=>?_)
  ·intro y0 y1 y2 y3 y4 y5 y6
   unfold record_Encode.j1
   repeat' first
   | (with_reducible exact ih0 _ _ _ _ _ _ _)
   | (with_reducible exact ih1 _ _ _ _ _ _ _)
   | (with_reducible exact record_Encode_4.mono _ _)
   | (with_reducible exact strings_Builder_Len.mono _ _ _ _ _ _ _)
   | (with_reducible exact LeO.refl _)
   | (with_reducible exact LeO.none _)
   | (with_reducible refine LeO.ite ?_ ?_)
   | (with_reducible refine LeO.bind ?_ (fun _=>?_))
   | exact ih0 _ _ _ _ _ _ _
   | exact ih1 _ _ _ _ _ _ _
   | exact record_Encode_4.mono _ _
   | exact strings_Builder_Len.mono _ _ _ _ _ _ _
   | exact LeO.none _
   | refine LeO.ite ?_ ?_
   | refine LeO.bind ?_ (fun _=>?_)
theorem record_Encode.mono:∀ a0 a1 a2 a3 a4 a5 k,LeO (record_Encode.f k a0 a1 a2 a3 a4 a5) (record_Encode.f (k + 1) a0 a1 a2 a3 a4 a5):=by
 intro a0 a1 a2 a3 a4 a5 k
 obtain ⟨Ab,Aa⟩:=record_Encode.mono_l k
 unfold record_Encode.f
 repeat' first
   | (with_reducible exact Ab _ _ _ _ _ _ _)
   | (with_reducible exact Aa _ _ _ _ _ _ _)
   | (with_reducible exact record_Encode_4.mono _ _)
   | (with_reducible exact strings_Builder_Len.mono _ _ _ _ _ _ _)
   | (with_reducible exact LeO.refl _)
   | (with_reducible exact LeO.none _)
   | (with_reducible refine LeO.ite ?_ ?_)
   | (with_reducible refine LeO.bind ?_ (fun _=>?_))
   | exact Ab _ _ _ _ _ _ _
   | exact Aa _ _ _ _ _ _ _
   | exact record_Encode_4.mono _ _
   | exact strings_Builder_Len.mono _ _ _ _ _ _ _
   | exact LeO.none _
   | refine LeO.ite ?_ ?_
   | refine LeO.bind ?_ (fun _=>?_)
theorem record_Encode.calls (k:Nat) (a0_0:Int) (a0_1:Int) (a0_2:Int) (A0_3:Option Addr) (c0_3:Nat) (l0_3:List Int) (A0_4:Option Addr) (c0_4:Nat) (l0_4:List ByteArray) (A0_5:Option Addr) (c0_5:Nat) (l0_5:List ByteArray) (r1:ByteArray) (r2:Int) (w:World) (hr0_3:Kd.C (Kd.int .i64) w A0_3 l0_3.length l0_3) (hc0_3:l0_3.length≤c0_3) (hr0_4:Kd.C Kd.string w A0_4 l0_4.length l0_4) (hc0_4:l0_4.length≤c0_4) (hr0_5:Kd.C Kd.string w A0_5 l0_5.length l0_5) (hc0_5:l0_5.length≤c0_5) (hL:LaidW w) (h:record_Encode.f k a0_0 a0_1 a0_2 l0_3 l0_4 l0_5 = some (r1,r2)) :
  Calls Tryz.prog 12 #[.agg #[.int .i64 a0_0,.int .i64 a0_1,.int .i64 a0_2,.slice A0_3 l0_3.length c0_3,.slice A0_4 l0_4.length c0_4,.slice A0_5 l0_5.length c0_5]] w fun e w'=>e = .returned (.tuple #[.string r1,.int .i64 r2])∧Below w.heap.size w w':=by
 have Ke:=Tryz.underlying26
 have Ap:=Aside0.mk hr0_3
 have Bu:=Aside0.mk hc0_3
 clear hr0_3 hc0_3
 have Af:=Aside0.mk hr0_4
 have Ah:=Aside0.mk hc0_4
 clear hr0_4 hc0_4
 have Ao:=Aside0.mk hr0_5
 have Aq:=Aside0.mk hc0_5
 clear hr0_5 hc0_5
 have HB:=Aside0.mk (Below.refl w.heap.size w)
 have HLW:=Aside0.mk hL
 clear hL
 have H:=h;clear h;unfold record_Encode.f at H
 have Jq:=Aside0.mk H
 clear H
 go_enter Tryz.func12,Tryz.ntmps12
 go_upto_region 1 with (first|((with_reducible refine gate_dst (N:=1) rfl ?_);(try (refine gate_guard (by rfl) ?_;dsimp only));refine bv_ #[.int .i64 a0_0,.int .i64 a0_1,.int .i64 a0_2,.slice A0_3 l0_3.length c0_3,.slice A0_4 l0_4.length c0_4,.slice A0_5 l0_5.length c0_5] 26 ?_;clear HB;intro Ac hg w3 Aa Js hb HB;clear hb hg))
 (try simp only [Act.put,List.setIfInBounds_toArray,List.set_cons_zero,List.set_cons_succ])
 go_cut [34] (fun Kb wc=>∃ (kq:Nat) (Ag:Bool),Kb = .bool Ag∧Aside0 (record_Encode.j0 kq Ag a0_0 a0_1 a0_2 l0_3 l0_4 l0_5 = some (r1,r2))∧Aside0 (kq≤k)∧Aside0 (wc.heap[Ac]? = some (.cells #[.int .i64 a0_0,.int .i64 a0_1,.int .i64 a0_2,(.slice A0_3 l0_3.length c0_3),(.slice A0_4 l0_4.length c0_4),(.slice A0_5 l0_5.length c0_5)] 26 (0,0)))∧Aside0 (Below w.heap.size w wc))
 case first =>
  have H:=Jq.out
  clear Jq
  by_cases c4:(l0_3.length:Int) > 64
  ·rw [if_pos c4] at H
   have Ai:decide (64 < (l0_3.length:Int)) = true:=decide_eq_true c4
   have Jo:decide (64 < l0_3.length) = true:=decide_eq_true (by omega)
   clear c4
   (first|rw [Ai]|(simp only [i64_w,i32_w];rw [Ai])|skip)
   have H':=Aside0.mk H
   clear H
   obtain ⟨Ji,Jh,Jg,Jf,Je,Jd,Ip,Io,Im,Il,Ik,Ij⟩:=c6_ Aa
   go_wp2
   go_meet
   case rel=>exact ⟨_,(true),rg_,H',⟨by first|omega|exact Nat.le_refl _⟩,⟨bk_⟩,⟨bx_⟩⟩
  ·rw [if_neg c4] at H
   have Ai:decide (64 < (l0_3.length:Int)) = false:=decide_eq_false c4
   have Jo:decide (64 < l0_3.length) = false:=decide_eq_false (by omega)
   clear c4
   (first|rw [Ai]|(simp only [i64_w,i32_w];rw [Ai])|skip)
   by_cases c6:(l0_4.length:Int) > 64
   ·rw [if_pos c6] at H
    have Jn:decide (64 < (l0_4.length:Int)) = true:=decide_eq_true c6
    have Jm:decide (64 < l0_4.length) = true:=decide_eq_true (by omega)
    clear c6
    have H':=Aside0.mk H
    clear H
    obtain ⟨Jc,Jb,Ja,Iz,Iy,Ix,Ii,Ih,Ig,Ie,Id,Ic⟩:=c6_ Aa
    go_wp2
    go_meet
    case rel=>exact ⟨_,(true),rg_,H',⟨by first|omega|exact Nat.le_refl _⟩,⟨bk_⟩,⟨bx_⟩⟩
   ·rw [if_neg c6] at H
    have Jn:decide (64 < (l0_4.length:Int)) = false:=decide_eq_false c6
    have Jm:decide (64 < l0_4.length) = false:=decide_eq_false (by omega)
    clear c6
    by_cases c8:(l0_5.length:Int) > 16
    ·rw [if_pos c8] at H
     have Jl:decide (16 < (l0_5.length:Int)) = true:=decide_eq_true c8
     have Jk:decide (16 < l0_5.length) = true:=decide_eq_true (by omega)
     clear c8
     have H':=Aside0.mk H
     clear H
     obtain ⟨Iw,Iv,Iu,It,Ir,Iq,Ib,Ia,Hz,Hy,Hx,Hw⟩:=c6_ Aa
     go_wp2
     go_meet
     case rel=>exact ⟨_,(true),rg_,H',⟨by first|omega|exact Nat.le_refl _⟩,⟨bk_⟩,⟨bx_⟩⟩
    ·rw [if_neg c8] at H
     have Jl:decide (16 < (l0_5.length:Int)) = false:=decide_eq_false c8
     have Jk:decide (16 < l0_5.length) = false:=decide_eq_false (by omega)
     clear c8
     obtain ⟨Hv,Jv,H⟩:=bn_ H
     by_cases Ht:Hv = true
     ·subst Ht
      have H1:(record_Encode.j0 k true a0_0 a0_1 a0_2 l0_3 l0_4 l0_5) = some (r1,r2):=by rw [if_pos rfl] at H;exact H
      clear H
      have H:=H1
      clear H1
      have H':=Aside0.mk H
      clear H
      obtain ⟨Hq,Hp,Ho,Hn,Hm,Hl,Es,Er,Ep,Eo,Em,El⟩:=c6_ Aa
      go_wp2_with (first|(go_at_call 37;(with_reducible refine (record_Encode_1.calls _ _ l0_4 true _ ?side1 ?side2 Jv.out).mono ?_);(case side1=>exact cx_ (Kd.C_below Af.out HB.out));(case side2=>exact Ah.out);rintro e Jz ⟨rfl,hb⟩;replace Aa:=bb_ Aa hb;replace HB:=bs_ hb;(try clear hb)))
      go_meet
      case rel=>exact ⟨_,(true),rg_,H',⟨by first|omega|exact Nat.le_refl _⟩,⟨bk_⟩,⟨bx_⟩⟩
     ·replace Ht:=Bool.eq_false_iff.mpr Ht
      subst Ht
      have H1:((record_Encode_2.f l0_5).bind fun An=>(record_Encode.j0 k An a0_0 a0_1 a0_2 l0_3 l0_4 l0_5)) = some (r1,r2):=by rw [if_neg (show ¬ (false = true) by decide)] at H;exact H
      clear H
      have H:=H1
      clear H1
      obtain ⟨An,Ki,H⟩:=bn_ H
      have H':=Aside0.mk H
      clear H
      obtain ⟨Hk,Hj,Hi,Hh,Hg,Hf,Ek,Ej,Ei,Eh,Eg,Ef⟩:=c6_ Aa
      go_wp2_with (first|(go_at_call 37;(with_reducible refine (record_Encode_1.calls _ _ l0_4 false _ ?side1 ?side2 Jv.out).mono ?_);(case side1=>exact cx_ (Kd.C_below Af.out HB.out));(case side2=>exact Ah.out);rintro e Jw ⟨rfl,hb⟩;replace Aa:=bb_ Aa hb;replace HB:=bs_ hb;(try clear hb);obtain ⟨He,Hd,Hb,Ha,Gz,Gy,Ee,Ed,Ec,Eb,Ea,Dz⟩:=c6_ Aa)|(go_at_call 39;(with_reducible refine (record_Encode_2.calls _ _ l0_5 An _ ?side1 ?side2 Ki.out).mono ?_);(case side1=>exact cx_ (Kd.C_below Ao.out HB.out));(case side2=>exact Aq.out);rintro e Kp ⟨rfl,hb⟩;replace Aa:=bb_ Aa hb;replace HB:=bs_ hb;(try clear hb)))
      go_meet
      case rel=>exact ⟨_,(An),rg_,H',⟨by first|omega|exact Nat.le_refl _⟩,⟨bk_⟩,⟨bx_⟩⟩
 case rest =>
  clear Jq
  obtain ⟨kq,Ag,rfl,HA,Au,Aa,HB⟩:=hcut
  cases kq with
  | zero=>exact absurd HA.out (by simp [record_Encode.j0])
  | succ kj1 =>
   have H:=HA.out
   clear HA
   simp only [record_Encode.j0] at H
   by_cases Bt:Ag = true
   ·subst Bt
    have H1:(some ((⟨#[]⟩:ByteArray),8)) = some (r1,r2):=by rw [if_pos rfl] at H;exact H
    clear H
    have H:=H1
    clear H1
    simp only [Option.some.injEq,Prod.mk.injEq] at H
    obtain ⟨rfl,rfl⟩:=H
    go_wp2
    go_ret2
    exact ⟨rf_,bx_⟩
   ·replace Bt:=Bool.eq_false_iff.mpr Bt
    subst Bt
    have H1:(if a0_0 < 1 then (record_Encode.j1 kj1 true a0_0 a0_1 a0_2 l0_3 l0_4 l0_5) else (if a0_0 > 1073741824 then (record_Encode.j1 kj1 true a0_0 a0_1 a0_2 l0_3 l0_4 l0_5) else (if a0_1 < 0 then (record_Encode.j1 kj1 true a0_0 a0_1 a0_2 l0_3 l0_4 l0_5) else (if a0_1 > 1073741824 then (record_Encode.j1 kj1 true a0_0 a0_1 a0_2 l0_3 l0_4 l0_5) else (if a0_2 < 1 then (record_Encode.j1 kj1 true a0_0 a0_1 a0_2 l0_3 l0_4 l0_5) else (if a0_2 > 99 then (record_Encode.j1 kj1 true a0_0 a0_1 a0_2 l0_3 l0_4 l0_5) else ((record_Encode_3.f l0_3).bind fun Am=>(record_Encode.j1 kj1 Am a0_0 a0_1 a0_2 l0_3 l0_4 l0_5)))))))) = some (r1,r2):=by rw [if_neg (show ¬ (false = true) by decide)] at H;exact H
    clear H
    have H:=H1
    clear H1
    have Av:=Aside0.mk H
    clear H
    go_upto_region 3 with (fail)
    go_cut [67] (fun Ka wc=>∃ (kq:Nat) (Ad:Bool),Ka = .bool Ad∧Aside0 (record_Encode.j1 kq Ad a0_0 a0_1 a0_2 l0_3 l0_4 l0_5 = some (r1,r2))∧Aside0 (kq≤kj1)∧Aside0 (wc.heap[Ac]? = some (.cells #[.int .i64 a0_0,.int .i64 a0_1,.int .i64 a0_2,(.slice A0_3 l0_3.length c0_3),(.slice A0_4 l0_4.length c0_4),(.slice A0_5 l0_5.length c0_5)] 26 (0,0)))∧Aside0 (Below w.heap.size w wc))
    case first =>
     have H:=Av.out
     clear Av
     by_cases Bc:a0_0 < 1
     ·rw [if_pos Bc] at H
      have Ae:decide (a0_0 < 1) = true:=decide_eq_true Bc
      clear Bc
      (first|rw [Ae]|(simp only [i64_w,i32_w];rw [Ae])|skip)
      have H':=Aside0.mk H
      clear H
      obtain ⟨Gx,Gw,Gv,Gu,Gt,Gs,Dy,Dx,Dw,Dv,Du,Dt⟩:=c6_ Aa
      go_wp2
      go_meet
      case rel=>exact ⟨_,(true),rg_,H',⟨by have:=Au.out;first|omega|exact Nat.le_refl _⟩,⟨bk_⟩,⟨bx_⟩⟩
     ·rw [if_neg Bc] at H
      have Ae:decide (a0_0 < 1) = false:=decide_eq_false Bc
      clear Bc
      (first|rw [Ae]|(simp only [i64_w,i32_w];rw [Ae])|skip)
      by_cases Bb:a0_0 > 1073741824
      ·rw [if_pos Bb] at H
       have Br:decide (1073741824 < a0_0) = true:=decide_eq_true Bb
       clear Bb
       have H':=Aside0.mk H
       clear H
       obtain ⟨Gr,Gq,Gp,Gn,Gm,Gl,Ds,Dr,Dq,Dp,Do,Dn⟩:=c6_ Aa
       go_wp2
       go_meet
       case rel=>exact ⟨_,(true),rg_,H',⟨by have:=Au.out;first|omega|exact Nat.le_refl _⟩,⟨bk_⟩,⟨bx_⟩⟩
      ·rw [if_neg Bb] at H
       have Br:decide (1073741824 < a0_0) = false:=decide_eq_false Bb
       clear Bb
       by_cases Ba:a0_1 < 0
       ·rw [if_pos Ba] at H
        have Bq:decide (a0_1 < 0) = true:=decide_eq_true Ba
        clear Ba
        have H':=Aside0.mk H
        clear H
        obtain ⟨Gk,Gj,Gi,Gh,Gg,Gf,Dm,Dl,Dk,Dj,Di,Dh⟩:=c6_ Aa
        go_wp2
        go_meet
        case rel=>exact ⟨_,(true),rg_,H',⟨by have:=Au.out;first|omega|exact Nat.le_refl _⟩,⟨bk_⟩,⟨bx_⟩⟩
       ·rw [if_neg Ba] at H
        have Bq:decide (a0_1 < 0) = false:=decide_eq_false Ba
        clear Ba
        by_cases Ay:a0_1 > 1073741824
        ·rw [if_pos Ay] at H
         have Bp:decide (1073741824 < a0_1) = true:=decide_eq_true Ay
         clear Ay
         have H':=Aside0.mk H
         clear H
         obtain ⟨Ge,Gd,Gc,Gb,Ga,Fz,Dg,Df,De,Dd,Dc,Db⟩:=c6_ Aa
         go_wp2
         go_meet
         case rel=>exact ⟨_,(true),rg_,H',⟨by have:=Au.out;first|omega|exact Nat.le_refl _⟩,⟨bk_⟩,⟨bx_⟩⟩
        ·rw [if_neg Ay] at H
         have Bp:decide (1073741824 < a0_1) = false:=decide_eq_false Ay
         clear Ay
         by_cases Ax:a0_2 < 1
         ·rw [if_pos Ax] at H
          have Bo:decide (a0_2 < 1) = true:=decide_eq_true Ax
          clear Ax
          have H':=Aside0.mk H
          clear H
          obtain ⟨Fy,Fx,Fw,Fv,Fu,Ft,Da,Cz,Cy,Cx,Cw,Cv⟩:=c6_ Aa
          go_wp2
          go_meet
          case rel=>exact ⟨_,(true),rg_,H',⟨by have:=Au.out;first|omega|exact Nat.le_refl _⟩,⟨bk_⟩,⟨bx_⟩⟩
         ·rw [if_neg Ax] at H
          have Bo:decide (a0_2 < 1) = false:=decide_eq_false Ax
          clear Ax
          by_cases Aw:a0_2 > 99
          ·rw [if_pos Aw] at H
           have Bn:decide (99 < a0_2) = true:=decide_eq_true Aw
           clear Aw
           have H':=Aside0.mk H
           clear H
           obtain ⟨Fs,Fr,Fq,Fp,Fo,Fm,Cu,Ct,Cs,Cr,Cq,Cp⟩:=c6_ Aa
           go_wp2
           go_meet
           case rel=>exact ⟨_,(true),rg_,H',⟨by have:=Au.out;first|omega|exact Nat.le_refl _⟩,⟨bk_⟩,⟨bx_⟩⟩
          ·rw [if_neg Aw] at H
           have Bn:decide (99 < a0_2) = false:=decide_eq_false Aw
           clear Aw
           obtain ⟨Am,Kh,H⟩:=bn_ H
           have H':=Aside0.mk H
           clear H
           obtain ⟨Fl,Fk,Fj,Fi,Fh,Fg,Co,Cn,Cm,Cl,Ck,Cj⟩:=c6_ Aa
           go_wp2_with (first|(go_at_call 41;(with_reducible refine (record_Encode_3.calls _ _ l0_3 Am _ ?side1 ?side2 Kh.out).mono ?_);(case side1=>exact cx_ (Kd.C_below Ap.out HB.out));(case side2=>exact Bu.out);rintro e Kk ⟨rfl,hb⟩;replace Aa:=bb_ Aa hb;replace HB:=bs_ hb;(try clear hb)))
           go_meet
           case rel=>exact ⟨_,(Am),rg_,H',⟨by have:=Au.out;first|omega|exact Nat.le_refl _⟩,⟨bk_⟩,⟨bx_⟩⟩
    case rest =>
     clear Av
     try clear Bt
     obtain ⟨kq,Ad,rfl,HA,Kg,Aa,HB⟩:=hcut
     cases kq with
     | zero=>exact absurd HA.out (by simp [record_Encode.j1])
     | succ kj19 =>
      have H:=HA.out
      clear HA
      simp only [record_Encode.j1] at H
      by_cases Hs:Ad = true
      ·subst Hs
       have H1:(some ((⟨#[]⟩:ByteArray),2)) = some (r1,r2):=by rw [if_pos rfl] at H;exact H
       clear H
       have H:=H1
       clear H1
       simp only [Option.some.injEq,Prod.mk.injEq] at H
       obtain ⟨rfl,rfl⟩:=H
       go_wp2
       go_ret2
       exact ⟨rf_,bx_⟩
      ·replace Hs:=Bool.eq_false_iff.mpr Hs
       subst Hs
       have H1:((record_Encode_4.f kj19 l0_4).bind fun At=>(if At = true then (some ((⟨#[]⟩:ByteArray),1)) else ((strings_Builder_Len.f kj19 a0_0 a0_1 a0_2 l0_3 l0_4 l0_5).bind fun Al=>(some (Al,0))))) = some (r1,r2):=by rw [if_neg (show ¬ (false = true) by decide)] at H;exact H
       clear H
       have H:=H1
       clear H1
       obtain ⟨At,Ju,H⟩:=bn_ H
       by_cases Hr:At = true
       ·subst Hr
        have H1:(some ((⟨#[]⟩:ByteArray),1)) = some (r1,r2):=by rw [if_pos rfl] at H;exact H
        clear H
        have H:=H1
        clear H1
        simp only [Option.some.injEq,Prod.mk.injEq] at H
        obtain ⟨rfl,rfl⟩:=H
        obtain ⟨Ff,Fe,Fd,Fc,Fb,Fa,Ci,Ch,Cg,Cf,Ce,Cc⟩:=c6_ Aa
        go_wp2_with (first|(go_at_call 37;(with_reducible refine (record_Encode_4.calls kj19 _ _ l0_4 true _ ?side1 ?side2 ?side3 Ju.out).mono ?_);(case side1=>exact cx_ (Kd.C_below Af.out HB.out));(case side2=>exact Ah.out);(case side3=>exact HLW.out.below bx_);rintro e Kj ⟨rfl,hb⟩;replace Aa:=bb_ Aa hb;replace HB:=bs_ hb;(try clear hb)))
        go_ret2
        exact ⟨rf_,bx_⟩
       ·replace Hr:=Bool.eq_false_iff.mpr Hr
        subst Hr
        have H1:((strings_Builder_Len.f kj19 a0_0 a0_1 a0_2 l0_3 l0_4 l0_5).bind fun Al=>(some (Al,0))) = some (r1,r2):=by rw [if_neg (show ¬ (false = true) by decide)] at H;exact H
        clear H
        have H:=H1
        clear H1
        obtain ⟨Al,Jt,H⟩:=bn_ H
        simp only [Option.some.injEq,Prod.mk.injEq] at H
        obtain ⟨rfl,rfl⟩:=H
        obtain ⟨Ez,Ey,Ex,Ew,Eu,Et,Cb,Ca,Bz,By,Bx,Bw⟩:=c6_ Aa
        go_upto_region 7 with (first|(go_at_call 37;(with_reducible refine (record_Encode_4.calls kj19 _ _ l0_4 false _ ?side1 ?side2 ?side3 Ju.out).mono ?_);(case side1=>exact cx_ (Kd.C_below Af.out HB.out));(case side2=>exact Ah.out);(case side3=>exact HLW.out.below bx_);rintro e Bv ⟨rfl,hb⟩;replace Aa:=bb_ Aa hb;replace HB:=bs_ hb;(try clear hb)))
        have hA:=Jt.out
        unfold strings_Builder_Len.f at hA
        obtain ⟨t0,B0,hA⟩:=bn_ hA
        obtain ⟨t1,B1,hA⟩:=bn_ hA
        obtain ⟨t2,B2,hA⟩:=bn_ hA
        obtain ⟨t3,B3,hA⟩:=bn_ hA
        by_cases hz:t0.size + t1.size + t2.size + t3.size≤mostB∧l0_3.length≤mostB∧l0_4.length≤mostB
        case neg=>rw [if_neg hz] at hA;cases hA
        rw [if_pos hz] at hA
        obtain ⟨L1,B4,hA⟩:=bn_ hA
        obtain ⟨t4,B5,hA⟩:=bn_ hA
        by_cases Ak:L1.length + t4.size≤mostB
        case neg=>rw [if_neg Ak] at hA;cases hA
        rw [if_pos Ak] at hA
        obtain ⟨L2,B6,hA⟩:=bn_ hA
        obtain ⟨t5,B7,hA⟩:=bn_ hA
        obtain ⟨t6,B8,hA⟩:=bn_ hA
        by_cases Aj:L2.length + (t5.size + t6.size)≤mostB
        case neg=>rw [if_neg Aj] at hA;cases hA
        rw [if_pos Aj] at hA
        obtain rfl:=Option.some.inj hA
        have HZ:=Aside0.mk hz
        have Kf:=Aside0.mk Ak
        have Jr:=Aside0.mk Aj
        clear hA hz Ak Aj Jt
        have NE:Aside0 (Ac≠Bv.heap.size):=⟨Nat.ne_of_lt (blk_lt Aa.out)⟩
        have HBd:=Aside0.mk (Bld.new HB.out)
        replace Aa:Aside0 ((Bv.alloc (.cells #[.pointer none,.slice none 0 0] 73)).heap[Ac]? = some (.cells #[.int .i64 a0_0,.int .i64 a0_1,.int .i64 a0_2,.slice A0_3 l0_3.length c0_3,.slice A0_4 l0_4.length c0_4,.slice A0_5 l0_5.length c0_5] 26 (0,0))):=⟨blk_alloc Aa.out _⟩
        clear HB
        go_upto_region 8 with (fail)
        generalize Bv.alloc (.cells #[.pointer none,.slice none 0 0] 73) = W8 at HBd Aa ⊢
        generalize Bv.heap.size = b at HBd NE ⊢
        replace Aa:=dr_ Aa
        refine start_ (n:=17) (S:=fun w'=>w'.cell? ⟨Ac,0,none⟩ = some (.int .i64 a0_0)∧w'.cell? ⟨Ac,1,none⟩ = some (.int .i64 a0_1)∧w'.cell? ⟨Ac,2,none⟩ = some (.int .i64 a0_2)∧w'.cell? ⟨Ac,3,none⟩ = some (.slice A0_3 l0_3.length c0_3)) (ds:=[]) #[false,false,false,false,false,false,false,false,false,false,false,false,false,false,false,false,false] kr_ rfl rfl hc_ (fun Ab=>?_)
        replace HBd:=Aside0.mk HBd.out.drew
        generalize W8.drew = W9 at Aa HBd Ab ⊢
        refine pu_ 0 (some 71) (tt_ 17 1) ?_
        refine pu_ 3 (some 74) (tt_ 17 9) ?_
        refine pu_ 7 (some 78) (tt_ 17 137) ?_
        refine pu_ 11 (some 82) (tt_ 17 2185) ?_
        refine tk_ 1 (some 72) (tt_ 17 2187) Ab ?_
        refine tk_ 4 (some 75) (tt_ 17 2203) Ab ?_
        refine tk_ 8 (some 79) (tt_ 17 2459) Ab ?_
        refine tk_ 12 (some 83) (tt_ 17 6555) Ab ?_
        refine pu_ 13 (some 84) (tt_ 17 14747) ?_
        have z1:(9223372036854775807 < t0.size + t1.size) = False:=eq_false (by have:=HZ.out.1;unfold mostB at this;omega)
        have z2:(9223372036854775807 < t0.size + t1.size + t2.size) = False:=eq_false (by have:=HZ.out.1;unfold mostB at this;omega)
        have z3:(9223372036854775807 < t0.size + t1.size + t2.size + t3.size) = False:=eq_false (by have:=HZ.out.1;unfold mostB at this;omega)
        refine oc_ 2 (some 73) (tt_ 17 14751) Tryz.func46 #[.int .i64 a0_0] (fun K hK=>?_)
        with_reducible refine (record_short.calls kj19 a0_0 t0 _ B0.out).mono ?_
        rintro e Kt ⟨rfl,hb⟩
        refine ⟨_,rfl,?_⟩
        replace Aa:=bb_ Aa hb
        replace HBd:=bk_kept HBd hb
        clear hb
        refine hk_ hK (fun Ab=>?_);clear hK K
        refine oc_ 5 (some 76) (tt_ 17 14783) Tryz.func46 #[.int .i64 a0_1] (fun K hK=>?_)
        with_reducible refine (record_short.calls kj19 a0_1 t1 _ B1.out).mono ?_
        rintro e Ks ⟨rfl,hb⟩
        refine ⟨_,rfl,?_⟩
        replace Aa:=bb_ Aa hb
        replace HBd:=bk_kept HBd hb
        clear hb
        refine hk_ hK (fun Ab=>?_);clear hK K
        refine pu_ 6 (some 77) (tt_ 17 14847) ?_
        refine oc_ 9 (some 80) (tt_ 17 15359) Tryz.func46 #[.int .i64 a0_2] (fun K hK=>?_)
        with_reducible refine (record_short.calls kj19 a0_2 t2 _ B2.out).mono ?_
        rintro e Kr ⟨rfl,hb⟩
        refine ⟨_,rfl,?_⟩
        replace Aa:=bb_ Aa hb
        replace HBd:=bk_kept HBd hb
        clear hb
        refine hk_ hK (fun Ab=>?_);clear hK K
        refine pu_ 10 (some 81) (tt_ 17 16383) ?_
        refine oc_ 14 (some 85) (tt_ 17 32767) Tryz.func46 #[.int .i64 l0_3.length] (fun K hK=>?_)
        with_reducible refine (record_short.calls kj19 l0_3.length t3 _ B3.out).mono ?_
        rintro e Jz ⟨rfl,hb⟩
        refine ⟨_,rfl,?_⟩
        replace Aa:=bb_ Aa hb
        replace HBd:=bk_kept HBd hb
        clear hb
        refine hk_ hK (fun Ab=>?_);clear hK K
        refine pu_ 15 (some 86) (tt_ 17 65535) ?_
        clear z1 z2 z3
        have hts:(t0 ++ t1 ++ t2 ++ t3).size≤mostB:=by have:=HZ.out.1;simp only [ByteArray.size_append];omega
        generalize t0 ++ t1 ++ t2 ++ t3 = tt at B4 hts ⊢
        have HTS:=Aside0.mk hts
        clear hts
        refine oc_ 16 (some 87) (tt_ 17 131071) Tryz.func45 #[.pointer (some ⟨b,0,none⟩),.string tt] (fun K hK=>?_)
        with_reducible refine (bld_write tt HBd.out (by have:=HTS.out;unfold mostB at this;simp only [List.length_nil];omega)).mono ?_
        rintro e Jy ⟨rfl,hb,hkp⟩
        refine ⟨_,rfl,?_⟩
        replace Aa:=kept_blk Aa hkp NE (by decide)
        replace HBd:Aside0 (Bld w Jy b tt.data.toList):=⟨by rw [List.nil_append] at hb;exact hb⟩
        clear hb hkp
        refine hk_ hK (fun Ab=>?_);clear hK K
        refine done_ kr_ ?_
        obtain ⟨Bg,Bf,Ak,Aj,Be,Bd,Bm,Bl,Bk,Bj,Bi,Bh⟩:=c6_ Aa
        go_wp2_with fail
        clear Bg Bf Ak Aj Be Bd Bm Bl Bk Bj Bi Bh Ab
        go_loopw [91] (fun Hu w'=>∃ (i:Nat) (acc:List UInt8),Hu = .int .i64 (i:Int)∧i≤l0_3.length∧Aside0 (encN kj19 acc (l0_3.drop i) = some L1)∧Aside0 (Bld w w' b acc)∧Aside0 (w'.heap[Ac]? = some (.cells #[.int .i64 a0_0,.int .i64 a0_1,.int .i64 a0_2,.slice A0_3 l0_3.length c0_3,.slice A0_4 l0_4.length c0_4,.slice A0_5 l0_5.length c0_5] 26 (0,0)))) (fun Hu _=>l0_3.length - (RowKit.intOf Hu).toNat)
        case atStart=>exact ⟨0,_,rfl,Nat.zero_le _,B4,HBd,Aa⟩
        case round=>
         clear HBd Aa
         obtain ⟨i,acc,rfl,hi,HS,HBd,Aa⟩:=hrel
         by_cases hlt:i < l0_3.length
         ·have HW:=Aside0.mk (wrap_succ hlt HZ.out.2.1)
          have hs:=HS.out
          rw [rd_drop l0_3 i hlt,encN] at hs
          obtain ⟨t,C0,hs⟩:=bn_ hs
          by_cases hsz:acc.length + t.size≤mostB
          case neg=>rw [if_neg hsz] at hs;cases hs
          rw [if_pos hsz] at hs
          obtain ⟨ad,e,hx⟩:=Kd.at_int Ap.out (i:Int) (by omega) (by omega)
          replace hx:=(HBd.out.below.cell (World.block_lt_of_cell? w _ hx)).trans hx
          rw [Int.toNat_natCast] at hx
          cases e
          generalize rd l0_3 (i:Int) = n at hx C0
          have Jp:=Aside0.mk hs
          have HSZ:=Aside0.mk hsz
          clear hs HS hsz
          have hd:decide ((i:Int) < (l0_3.length:Int)) = true:=decide_eq_true (by omega)
          go_wp2_with fail
          go_at_call 47
          refine (record_signed.calls kj19 _ t _ C0.out).mono ?_
          rintro e W1 ⟨rfl,hb⟩
          replace Aa:=bb_ Aa hb
          replace HBd:=bk_kept HBd hb
          clear hb
          go_wp2_with fail
          go_at_call 45
          refine (bld_write _ HBd.out HSZ.out).mono ?_
          rintro e W2 ⟨rfl,hb,hkp⟩
          replace Aa:=kept_blk Aa hkp NE (by decide)
          replace HBd:=Aside0.mk hb
          clear hb hkp
          go_wp2
          go_roundw
          case rel=>exact ⟨i + 1,_,by rw [HW.out],by omega,Jp,HBd,Aa⟩
          case measure=>
           rw [HW.out]
           simp only [RowKit.intOf,Int.toNat_natCast]
           omega
         ·have hd:decide ((i:Int) < (l0_3.length:Int)) = false:=decide_eq_false (by omega)
          have hs:=HS.out
          rw [List.drop_eq_nil_of_le (by omega),encN] at hs
          obtain rfl:=Option.some.inj hs
          clear HS hs
          obtain ⟨Bg,Bf,Ak,Aj,Be,Bd,Bm,Bl,Bk,Bj,Bi,Bh⟩:=c6_ Aa
          go_wp2_with fail
          go_at_call 46
          refine (record_short.calls kj19 _ t4 _ B5.out).mono ?_
          rintro e Kq ⟨rfl,hb⟩
          replace Aa:=bb_ Aa hb
          replace HBd:=bk_kept HBd hb
          clear hb
          go_wp2_with fail
          go_at_call 45
          refine (bld_write _ HBd.out Kf.out).mono ?_
          rintro e Jw ⟨rfl,hb,hkp⟩
          replace Aa:=kept_blk Aa hkp NE (by decide)
          replace HBd:=Aside0.mk hb
          clear hb hkp Bg Bf Ak Aj Be Bd Bm Bl Bk Bj Bi Bh
          obtain ⟨Bg,Bf,Ak,Aj,Be,Bd,Bm,Bl,Bk,Bj,Bi,Bh⟩:=c6_ Aa
          go_wp2_with fail
          clear Bg Bf Ak Aj Be Bd Bm Bl Bk Bj Bi Bh
          go_loopw [107] (fun As w'=>∃ (i:Nat) (acc:List UInt8),As = .int .i64 (i:Int)∧i≤l0_4.length∧Aside0 (encR kj19 acc (l0_4.drop i) = some L2)∧Aside0 (Bld w w' b acc)∧Aside0 (w'.heap[Ac]? = some (.cells #[.int .i64 a0_0,.int .i64 a0_1,.int .i64 a0_2,.slice A0_3 l0_3.length c0_3,.slice A0_4 l0_4.length c0_4,.slice A0_5 l0_5.length c0_5] 26 (0,0)))) (fun As _=>l0_4.length - (RowKit.intOf As).toNat)
          case atStart=>exact ⟨0,_,rfl,Nat.zero_le _,B6,HBd,Aa⟩
          case round=>
           clear HBd Aa
           obtain ⟨i,acc,rfl,hi,HS,HBd,Aa⟩:=hrel
           by_cases hlt:i < l0_4.length
           ·have HW:=Aside0.mk (wrap_succ hlt HZ.out.2.2)
            have hs:=HS.out
            rw [rdOf_drop l0_4 i hlt,encR] at hs
            obtain ⟨t,C0,hs⟩:=bn_ hs
            by_cases hsz:acc.length + t.size≤mostB
            case neg=>rw [if_neg hsz] at hs;cases hs
            rw [if_pos hsz] at hs
            obtain ⟨ad,e,hx⟩:=Kd.at_string Af.out (i:Int) (by omega) (by omega)
            replace hx:=(HBd.out.below.cell (World.block_lt_of_cell? w _ hx)).trans hx
            rw [Int.toNat_natCast] at hx
            cases e
            generalize rdOf ByteArray.empty l0_4 (i:Int) = x at hx C0
            have Jp:=Aside0.mk hs
            have HSZ:=Aside0.mk hsz
            clear hs HS hsz
            have hd:decide ((i:Int) < (l0_4.length:Int)) = true:=decide_eq_true (by omega)
            go_wp2_with fail
            refine (record_strs.calls kj19 _ 1 [x] t (wr.alloc (.cells #[.string x] 9)) (C_one wr x) (Nat.le_refl _) C0.out).mono ?_
            rintro e W1 ⟨rfl,hb⟩
            have Jj:=below_step (below_alloc (Below.refl wr.heap.size wr) (.cells #[.string x] 9)) hb
            replace Aa:=bb_ Aa Jj
            replace HBd:=bk_kept HBd Jj
            clear hb Jj
            go_wp2_with fail
            go_at_call 45
            refine (bld_write _ HBd.out HSZ.out).mono ?_
            rintro e W2 ⟨rfl,hb,hkp⟩
            replace Aa:=kept_blk Aa hkp NE (by decide)
            replace HBd:=Aside0.mk hb
            clear hb hkp
            go_wp2
            go_roundw
            case rel=>exact ⟨i + 1,_,by rw [HW.out],by omega,Jp,HBd,Aa⟩
            case measure=>
             rw [HW.out]
             simp only [RowKit.intOf,Int.toNat_natCast]
             omega
           ·have hd:decide ((i:Int) < (l0_4.length:Int)) = false:=decide_eq_false (by omega)
            have hs:=HS.out
            rw [List.drop_eq_nil_of_le (by omega),encR] at hs
            obtain rfl:=Option.some.inj hs
            clear HS hs
            go_wp2_with fail
            replace Aa:=dr_ Aa
            replace HBd:=Aside0.mk HBd.out.drew
            refine start_ (n:=9) (S:=fun w'=>w'.cell? ⟨Ac,5,none⟩ = some (.slice A0_5 l0_5.length c0_5)) (ds:=[]) #[false,false,false,false,false,false,false,false,false] kr_ rfl rfl hc_ (fun Ab=>?_)
            generalize wr.drew = W9 at Aa HBd Ab ⊢
            refine pu_ 0 (some 116) (tt_ 9 1) ?_
            refine pu_ 4 (some 120) (tt_ 9 17) ?_
            refine tk_ 1 (some 117) (tt_ 9 19) Ab ?_
            refine tk_ 5 (some 121) (tt_ 9 51) Ab ?_
            refine pu_ 2 (some 118) (tt_ 9 55) ?_
            refine oc_ 3 (some 119) (tt_ 9 63) Tryz.func46 #[.int .i64 l0_5.length] (fun K hK=>?_)
            with_reducible refine (record_short.calls kj19 l0_5.length t5 _ B7.out).mono ?_
            rintro e Ko ⟨rfl,hb⟩
            refine ⟨_,rfl,?_⟩
            replace Aa:=bb_ Aa hb
            replace HBd:=bk_kept HBd hb
            clear hb
            refine hk_ hK (fun Ab=>?_);clear hK K
            refine oc_ 6 (some 122) (tt_ 9 127) Tryz.func48 #[.slice A0_5 l0_5.length c0_5] (fun K hK=>?_)
            with_reducible refine (record_strs.calls kj19 _ _ l0_5 t6 _ (Kd.C_below Ao.out HBd.out.below) Aq.out B8.out).mono ?_
            rintro e Kn ⟨rfl,hb⟩
            refine ⟨_,rfl,?_⟩
            replace Aa:=bb_ Aa hb
            replace HBd:=bk_kept HBd hb
            clear hb
            refine hk_ hK (fun Ab=>?_);clear hK K
            have z1:(9223372036854775807 < t5.size + t6.size) = False:=eq_false (by have:=Jr.out;unfold mostB at this;omega)
            refine pu_ 7 (some 123) (tt_ 9 255) ?_
            clear z1
            have hts:acc.length + (t5 ++ t6).size≤mostB:=by have:=Jr.out;simp only [ByteArray.size_append];exact this
            generalize htu:t5 ++ t6 = tu at hts ⊢
            have HTU:=Aside0.mk hts
            have HTE:=Aside0.mk htu
            clear hts htu
            refine oc_ 8 (some 124) (tt_ 9 511) Tryz.func45 #[.pointer (some ⟨b,0,none⟩),.string tu] (fun K hK=>?_)
            with_reducible refine (bld_write tu HBd.out (by have:=HTU.out;unfold mostB at this;exact this)).mono ?_
            rintro e Km ⟨rfl,hb,hkp⟩
            refine ⟨_,rfl,?_⟩
            replace Aa:=kept_blk Aa hkp NE (by decide)
            replace HBd:=Aside0.mk hb
            clear hb hkp
            refine hk_ hK (fun Ab=>?_);clear hK K
            refine done_ kr_ ?_
            go_wp2_with fail
            go_at_call 49
            refine (bld_string HBd.out).mono ?_
            rintro e Kl ⟨rfl,hb⟩
            have HB:=Aside0.mk hb
            clear hb
            go_wp2
            go_ret2
            have:=HTE.out
            subst this
            exact ⟨rfl,HB.out⟩
set_option maxHeartbeats 8000000
set_option maxRecDepth 100000
def record_fits.f (k:Nat) (l0:List (S52)) (a1_0:Int) (a1_1:Int) (a1_2:Int) (l1_3:List Int) (l1_4:List ByteArray) (l1_5:List ByteArray):Option (ByteArray × Int):=(record_Encode.f k a1_0 a1_1 a1_2 l1_3 l1_4 l1_5).bind fun bt225=>(if bt225.2 = 0 then (if (l0.length:Int) > 0 then (if 0≤(wrap64 ((l0.length:Int) - 1)) then (if (wrap64 ((l0.length:Int) - 1)) < (l0.length:Int) then (if ((rd_T52 l0 (wrap64 ((l0.length:Int) - 1))).f0.f0) ≥ a1_0 then (some ((⟨#[]⟩:ByteArray),5)) else (if ((rd_T52 l0 (wrap64 ((l0.length:Int) - 1))).f0.f1) > a1_1 then (some ((⟨#[]⟩:ByteArray),5)) else (some (bt225.1,0)))) else (none)) else (none)) else (some (bt225.1,0))) else (some ((⟨#[]⟩:ByteArray),bt225.2)))
theorem record_fits.mono:∀ a0 a1 a2 a3 a4 a5 a6 k,LeO (record_fits.f k a0 a1 a2 a3 a4 a5 a6) (record_fits.f (k + 1) a0 a1 a2 a3 a4 a5 a6):=by intro a0 a1 a2 a3 a4 a5 a6 k;unfold record_fits.f;have:=@record_Encode.mono;exact mn_
theorem record_fits.calls (k:Nat) (A0:Option Addr) (c0:Nat) (l0:List (S52)) (a1_0:Int) (a1_1:Int) (a1_2:Int) (A1_3:Option Addr) (c1_3:Nat) (l1_3:List Int) (A1_4:Option Addr) (c1_4:Nat) (l1_4:List ByteArray) (A1_5:Option Addr) (c1_5:Nat) (l1_5:List ByteArray) (r1:ByteArray) (r2:Int) (w:World) (hr0:Kd.C k52 w A0 l0.length l0) (hc0:l0.length≤c0) (hr1_3:Kd.C (Kd.int .i64) w A1_3 l1_3.length l1_3) (hc1_3:l1_3.length≤c1_3) (hr1_4:Kd.C Kd.string w A1_4 l1_4.length l1_4) (hc1_4:l1_4.length≤c1_4) (hr1_5:Kd.C Kd.string w A1_5 l1_5.length l1_5) (hc1_5:l1_5.length≤c1_5) (hL:LaidW w) (h:record_fits.f k l0 a1_0 a1_1 a1_2 l1_3 l1_4 l1_5 = some (r1,r2)) :
  Calls Tryz.prog 60 #[.slice A0 l0.length c0,.agg #[.int .i64 a1_0,.int .i64 a1_1,.int .i64 a1_2,.slice A1_3 l1_3.length c1_3,.slice A1_4 l1_4.length c1_4,.slice A1_5 l1_5.length c1_5]] w fun e w'=>e = .returned (.tuple #[.string r1,.int .i64 r2])∧Below w.heap.size w w':=by
 have Hu:=Tryz.underlying26
 have Hm:=Aside0.mk hr0
 have Il:=Aside0.mk hc0
 clear hr0 hc0
 have Aw:=Aside0.mk hr1_3
 have Ba:=Aside0.mk hc1_3
 clear hr1_3 hc1_3
 have Av:=Aside0.mk hr1_4
 have Ay:=Aside0.mk hc1_4
 clear hr1_4 hc1_4
 have Au:=Aside0.mk hr1_5
 have Ax:=Aside0.mk hc1_5
 clear hr1_5 hc1_5
 have HB:=Aside0.mk (Below.refl w.heap.size w)
 have HLW:=Aside0.mk hL
 clear hL
 have H:=h;clear h;unfold record_fits.f at H
 obtain ⟨⟨Bk,At⟩,A3,H⟩:=bn_ H
 dsimp only at H
 by_cases c4:At = 0
 ·rw [if_pos c4] at H
  have Hl:(At == 0) = true:=beq_iff_eq.mpr c4
  have Hk:(At != 0) = false:=bne_eq_false_iff_eq.mpr c4
  clear c4
  by_cases c5:(l0.length:Int) > 0
  ·rw [if_pos c5] at H
   have Hj:decide (0 < (l0.length:Int)) = true:=decide_eq_true c5
   have Hi:decide (0 < l0.length) = true:=decide_eq_true (by omega)
   clear c5
   obtain ⟨ji6,hji6⟩:∃ j_:Int,(wrap64 ((l0.length:Int) - 1)) = j_:=⟨_,rfl⟩
   replace H:(if 0≤(ji6) then (if (ji6) < (l0.length:Int) then (if ((rd_T52 l0 (ji6)).f0.f0) ≥ a1_0 then (some ((⟨#[]⟩:ByteArray),5)) else (if ((rd_T52 l0 (ji6)).f0.f1) > a1_1 then (some ((⟨#[]⟩:ByteArray),5)) else (some (Bk,0)))) else (none)) else (none)) = some (r1,r2):=by first|(rw [hji6] at H;exact H)|(simp only [hji6] at H ⊢;exact H)
   (try rw [hji6] at A3)
   have Ht:(IntKind.i64.wrap ((l0.length:Int) - 1)) = ji6:=(i64_w _).trans hji6
   by_cases c7:0≤(ji6)
   ·rw [if_pos c7] at H
    have Hw:decide (0≤(ji6)) = true:=decide_eq_true c7
    clear c7
    by_cases c8:(ji6) < (l0.length:Int)
    ·rw [if_pos c8] at H
     have Hv:decide ((ji6) < (l0.length:Int)) = true:=decide_eq_true c8
     clear c8
     by_cases c9:((rd_T52 l0 (ji6)).f0.f0) ≥ a1_0
     ·rw [if_pos c9] at H
      have Hh:decide (a1_0≤((rd_T52 l0 (ji6)).f0.f0)) = true:=decide_eq_true c9
      clear c9
      simp only [Option.some.injEq,Prod.mk.injEq] at H
      obtain ⟨rfl,rfl⟩:=H
      go_enter Tryz.func60,Tryz.ntmps60
      go_wp2_with (first|((with_reducible refine gate_dst (N:=3) rfl ?_);refine bv_ #[.int .i64 a1_0,.int .i64 a1_1,.int .i64 a1_2,.slice A1_3 l1_3.length c1_3,.slice A1_4 l1_4.length c1_4,.slice A1_5 l1_5.length c1_5] 26 ?_;clear HB;intro Bc hg Ik Aa Bj hb HB;clear hb hg;obtain ⟨Hg,Hf,He,Hd,Hb,Ha,Em,El,Ek,Ej,Ei,Eh⟩:=c6_ Aa)|((with_reducible refine gate_callee (f:=12) rfl ?_);refine gm_ (some 11) Tryz.func12 #[.agg #[.int .i64 a1_0,.int .i64 a1_1,.int .i64 a1_2,.slice A1_3 l1_3.length c1_3,.slice A1_4 l1_4.length c1_4,.slice A1_5 l1_5.length c1_5]] ?_;(with_reducible refine (record_Encode.calls k a1_0 a1_1 a1_2 _ _ l1_3 _ _ l1_4 _ _ l1_5 Bk At _ ?side1 ?side2 ?side3 ?side4 ?side5 ?side6 ?side7 A3.out).mono ?_);(case side1=>exact cx_ (Kd.C_below Aw.out HB.out));(case side2=>exact Ba.out);(case side3=>exact cx_ (Kd.C_below Av.out HB.out));(case side4=>exact Ay.out);(case side5=>exact cx_ (Kd.C_below Au.out HB.out));(case side6=>exact Ax.out);(case side7=>exact HLW.out.below bx_);rintro e Ij ⟨rfl,hb⟩;refine ⟨_,rfl,?_⟩;replace Aa:=bb_ Aa hb;replace HB:=bs_ hb;(try clear hb);have As:0≤((ji6):Int):=da_;have Aq:(ji6) < (l0.length:Int):=da_;obtain ⟨Bu,Br,Bo,Bq,Bn,Bp,Bm,Bl,Ah,Ag,Af,Ae,Ad,Ac,Ab,Ak,An,Aj,Am,Ai,Al⟩:=at_T52 Hm.out (ji6) As Aq;cases Bl;replace Ah:=(HB.out.cell (World.block_lt_of_cell? w _ Ah)).trans Ah;replace Ag:=(HB.out.cell (World.block_lt_of_cell? w _ Ag)).trans Ag;replace Af:=(HB.out.cell (World.block_lt_of_cell? w _ Af)).trans Af;replace Ae:=(HB.out.cell (World.block_lt_of_cell? w _ Ae)).trans Ae;replace Ad:=(HB.out.cell (World.block_lt_of_cell? w _ Ad)).trans Ad;replace Ac:=(HB.out.cell (World.block_lt_of_cell? w _ Ac)).trans Ac;replace Ab:=(HB.out.cell (World.block_lt_of_cell? w _ Ab)).trans Ab;have Bf:=Aside0.mk An;have Bi:=Aside0.mk Ak;clear An Ak;have Be:=Aside0.mk Am;have Bh:=Aside0.mk Aj;clear Am Aj;have Bd:=Aside0.mk Al;have Bg:=Aside0.mk Ai;clear Al Ai;replace As:=eq_true As;replace Aq:=eq_true Aq)|((with_reducible refine gate_dst (N:=8) rfl ?_);refine bv_ #[.int .i64 0,.int .i64 0,.int .i64 0,.slice none 0 0,.slice none 0 0,.slice none 0 0] 26 ?_;clear HB;intro Bt hg Ii Bb Bv hb HB;have x_:=ol_ Aa hg hb;clear Aa;obtain ⟨Aa,Ap,Ao⟩:=x_;clear hb hg;have Hs:=Ao.out;have Hp:=Ap.out;obtain ⟨Gz,Gy,Gx,Gw,Gv,Gu,Eg,Ef,Ee,Ed,Ec,Eb⟩:=c6_ Bb;obtain ⟨Gt,Gs,Gr,Gq,Gp,Gn,Ea,Dz,Dy,Dx,Dw,Dv⟩:=c6_ Aa))
      go_ret2
      exact ⟨by first|rfl|(simp [errW_none,errW_some]<;>rfl)|(simp only [← hji6];first|rfl|(simp [errW_none,errW_some]<;>rfl))|(simp [*,errW_none,errW_some]<;>rfl),bx_⟩
     ·rw [if_neg c9] at H
      have Hh:decide (a1_0≤((rd_T52 l0 (ji6)).f0.f0)) = false:=decide_eq_false c9
      clear c9
      by_cases Bw:((rd_T52 l0 (ji6)).f0.f1) > a1_1
      ·rw [if_pos Bw] at H
       have Bx:decide (a1_1 < ((rd_T52 l0 (ji6)).f0.f1)) = true:=decide_eq_true Bw
       clear Bw
       simp only [Option.some.injEq,Prod.mk.injEq] at H
       obtain ⟨rfl,rfl⟩:=H
       go_enter Tryz.func60,Tryz.ntmps60
       go_wp2_with (first|((with_reducible refine gate_dst (N:=3) rfl ?_);refine bv_ #[.int .i64 a1_0,.int .i64 a1_1,.int .i64 a1_2,.slice A1_3 l1_3.length c1_3,.slice A1_4 l1_4.length c1_4,.slice A1_5 l1_5.length c1_5] 26 ?_;clear HB;intro Bc hg Ih Aa Bj hb HB;clear hb hg;obtain ⟨Gm,Gl,Gk,Gj,Gi,Gh,Du,Dt,Ds,Dr,Dq,Dp⟩:=c6_ Aa)|((with_reducible refine gate_callee (f:=12) rfl ?_);refine gm_ (some 11) Tryz.func12 #[.agg #[.int .i64 a1_0,.int .i64 a1_1,.int .i64 a1_2,.slice A1_3 l1_3.length c1_3,.slice A1_4 l1_4.length c1_4,.slice A1_5 l1_5.length c1_5]] ?_;(with_reducible refine (record_Encode.calls k a1_0 a1_1 a1_2 _ _ l1_3 _ _ l1_4 _ _ l1_5 Bk At _ ?side1 ?side2 ?side3 ?side4 ?side5 ?side6 ?side7 A3.out).mono ?_);(case side1=>exact cx_ (Kd.C_below Aw.out HB.out));(case side2=>exact Ba.out);(case side3=>exact cx_ (Kd.C_below Av.out HB.out));(case side4=>exact Ay.out);(case side5=>exact cx_ (Kd.C_below Au.out HB.out));(case side6=>exact Ax.out);(case side7=>exact HLW.out.below bx_);rintro e Ig ⟨rfl,hb⟩;refine ⟨_,rfl,?_⟩;replace Aa:=bb_ Aa hb;replace HB:=bs_ hb;(try clear hb);have As:0≤((ji6):Int):=da_;have Aq:(ji6) < (l0.length:Int):=da_;obtain ⟨Bu,Br,Bo,Bq,Bn,Bp,Bm,Bl,Ah,Ag,Af,Ae,Ad,Ac,Ab,Ak,An,Aj,Am,Ai,Al⟩:=at_T52 Hm.out (ji6) As Aq;cases Bl;replace Ah:=(HB.out.cell (World.block_lt_of_cell? w _ Ah)).trans Ah;replace Ag:=(HB.out.cell (World.block_lt_of_cell? w _ Ag)).trans Ag;replace Af:=(HB.out.cell (World.block_lt_of_cell? w _ Af)).trans Af;replace Ae:=(HB.out.cell (World.block_lt_of_cell? w _ Ae)).trans Ae;replace Ad:=(HB.out.cell (World.block_lt_of_cell? w _ Ad)).trans Ad;replace Ac:=(HB.out.cell (World.block_lt_of_cell? w _ Ac)).trans Ac;replace Ab:=(HB.out.cell (World.block_lt_of_cell? w _ Ab)).trans Ab;have Bf:=Aside0.mk An;have Bi:=Aside0.mk Ak;clear An Ak;have Be:=Aside0.mk Am;have Bh:=Aside0.mk Aj;clear Am Aj;have Bd:=Aside0.mk Al;have Bg:=Aside0.mk Ai;clear Al Ai;replace As:=eq_true As;replace Aq:=eq_true Aq)|((with_reducible refine gate_dst (N:=8) rfl ?_);refine bv_ #[.int .i64 0,.int .i64 0,.int .i64 0,.slice none 0 0,.slice none 0 0,.slice none 0 0] 26 ?_;clear HB;intro Bt hg Ie Bb Bv hb HB;have x_:=ol_ Aa hg hb;clear Aa;obtain ⟨Aa,Ap,Ao⟩:=x_;clear hb hg;have Hr:=Ao.out;have Ho:=Ap.out;obtain ⟨Gg,Gf,Ge,Gd,Gc,Gb,Do,Dn,Dm,Dl,Dk,Dj⟩:=c6_ Bb;obtain ⟨Ga,Fz,Fy,Fx,Fw,Fv,Di,Dh,Dg,Df,De,Dd⟩:=c6_ Aa))
       go_ret2
       exact ⟨by first|rfl|(simp [errW_none,errW_some]<;>rfl)|(simp only [← hji6];first|rfl|(simp [errW_none,errW_some]<;>rfl))|(simp [*,errW_none,errW_some]<;>rfl),bx_⟩
      ·rw [if_neg Bw] at H
       have Bx:decide (a1_1 < ((rd_T52 l0 (ji6)).f0.f1)) = false:=decide_eq_false Bw
       clear Bw
       simp only [Option.some.injEq,Prod.mk.injEq] at H
       obtain ⟨rfl,rfl⟩:=H
       go_enter Tryz.func60,Tryz.ntmps60
       go_wp2_with (first|((with_reducible refine gate_dst (N:=3) rfl ?_);refine bv_ #[.int .i64 a1_0,.int .i64 a1_1,.int .i64 a1_2,.slice A1_3 l1_3.length c1_3,.slice A1_4 l1_4.length c1_4,.slice A1_5 l1_5.length c1_5] 26 ?_;clear HB;intro Bc hg Id Aa Bj hb HB;clear hb hg;obtain ⟨Fu,Ft,Fs,Fr,Fq,Fp,Dc,Db,Da,Cz,Cy,Cx⟩:=c6_ Aa)|((with_reducible refine gate_callee (f:=12) rfl ?_);refine gm_ (some 11) Tryz.func12 #[.agg #[.int .i64 a1_0,.int .i64 a1_1,.int .i64 a1_2,.slice A1_3 l1_3.length c1_3,.slice A1_4 l1_4.length c1_4,.slice A1_5 l1_5.length c1_5]] ?_;(with_reducible refine (record_Encode.calls k a1_0 a1_1 a1_2 _ _ l1_3 _ _ l1_4 _ _ l1_5 Bk At _ ?side1 ?side2 ?side3 ?side4 ?side5 ?side6 ?side7 A3.out).mono ?_);(case side1=>exact cx_ (Kd.C_below Aw.out HB.out));(case side2=>exact Ba.out);(case side3=>exact cx_ (Kd.C_below Av.out HB.out));(case side4=>exact Ay.out);(case side5=>exact cx_ (Kd.C_below Au.out HB.out));(case side6=>exact Ax.out);(case side7=>exact HLW.out.below bx_);rintro e Ic ⟨rfl,hb⟩;refine ⟨_,rfl,?_⟩;replace Aa:=bb_ Aa hb;replace HB:=bs_ hb;(try clear hb);have As:0≤((ji6):Int):=da_;have Aq:(ji6) < (l0.length:Int):=da_;obtain ⟨Bu,Br,Bo,Bq,Bn,Bp,Bm,Bl,Ah,Ag,Af,Ae,Ad,Ac,Ab,Ak,An,Aj,Am,Ai,Al⟩:=at_T52 Hm.out (ji6) As Aq;cases Bl;replace Ah:=(HB.out.cell (World.block_lt_of_cell? w _ Ah)).trans Ah;replace Ag:=(HB.out.cell (World.block_lt_of_cell? w _ Ag)).trans Ag;replace Af:=(HB.out.cell (World.block_lt_of_cell? w _ Af)).trans Af;replace Ae:=(HB.out.cell (World.block_lt_of_cell? w _ Ae)).trans Ae;replace Ad:=(HB.out.cell (World.block_lt_of_cell? w _ Ad)).trans Ad;replace Ac:=(HB.out.cell (World.block_lt_of_cell? w _ Ac)).trans Ac;replace Ab:=(HB.out.cell (World.block_lt_of_cell? w _ Ab)).trans Ab;have Bf:=Aside0.mk An;have Bi:=Aside0.mk Ak;clear An Ak;have Be:=Aside0.mk Am;have Bh:=Aside0.mk Aj;clear Am Aj;have Bd:=Aside0.mk Al;have Bg:=Aside0.mk Ai;clear Al Ai;replace As:=eq_true As;replace Aq:=eq_true Aq)|((with_reducible refine gate_dst (N:=8) rfl ?_);refine bv_ #[.int .i64 0,.int .i64 0,.int .i64 0,.slice none 0 0,.slice none 0 0,.slice none 0 0] 26 ?_;clear HB;intro Bt hg Ib Bb Bv hb HB;have x_:=ol_ Aa hg hb;clear Aa;obtain ⟨Aa,Ap,Ao⟩:=x_;clear hb hg;have Hq:=Ao.out;have Hn:=Ap.out;obtain ⟨Fo,Fm,Fl,Fk,Fj,Fi,Cw,Cv,Cu,Ct,Cs,Cr⟩:=c6_ Bb;obtain ⟨Fh,Fg,Ff,Fe,Fd,Fc,Cq,Cp,Co,Cn,Cm,Cl⟩:=c6_ Aa))
       go_ret2
       exact ⟨by first|rfl|(simp [errW_none,errW_some]<;>rfl)|(simp only [← hji6];first|rfl|(simp [errW_none,errW_some]<;>rfl))|(simp [*,errW_none,errW_some]<;>rfl),bx_⟩
    ·rw [if_neg c8] at H
     exact absurd H sm_
   ·rw [if_neg c7] at H
    exact absurd H sm_
  ·rw [if_neg c5] at H
   have Hj:decide (0 < (l0.length:Int)) = false:=decide_eq_false c5
   have Hi:decide (0 < l0.length) = false:=decide_eq_false (by omega)
   clear c5
   simp only [Option.some.injEq,Prod.mk.injEq] at H
   obtain ⟨rfl,rfl⟩:=H
   go_enter Tryz.func60,Tryz.ntmps60
   go_wp2_with (first|((with_reducible refine gate_dst (N:=3) rfl ?_);refine bv_ #[.int .i64 a1_0,.int .i64 a1_1,.int .i64 a1_2,.slice A1_3 l1_3.length c1_3,.slice A1_4 l1_4.length c1_4,.slice A1_5 l1_5.length c1_5] 26 ?_;clear HB;intro Bc hg Ia Aa Bj hb HB;clear hb hg;obtain ⟨Fb,Fa,Ez,Ey,Ex,Ew,Ck,Cj,Ci,Ch,Cg,Cf⟩:=c6_ Aa)|((with_reducible refine gate_callee (f:=12) rfl ?_);refine gm_ (some 11) Tryz.func12 #[.agg #[.int .i64 a1_0,.int .i64 a1_1,.int .i64 a1_2,.slice A1_3 l1_3.length c1_3,.slice A1_4 l1_4.length c1_4,.slice A1_5 l1_5.length c1_5]] ?_;(with_reducible refine (record_Encode.calls k a1_0 a1_1 a1_2 _ _ l1_3 _ _ l1_4 _ _ l1_5 Bk At _ ?side1 ?side2 ?side3 ?side4 ?side5 ?side6 ?side7 A3.out).mono ?_);(case side1=>exact cx_ (Kd.C_below Aw.out HB.out));(case side2=>exact Ba.out);(case side3=>exact cx_ (Kd.C_below Av.out HB.out));(case side4=>exact Ay.out);(case side5=>exact cx_ (Kd.C_below Au.out HB.out));(case side6=>exact Ax.out);(case side7=>exact HLW.out.below bx_);rintro e Hz ⟨rfl,hb⟩;refine ⟨_,rfl,?_⟩;replace Aa:=bb_ Aa hb;replace HB:=bs_ hb;(try clear hb)))
   go_ret2
   exact ⟨rf_,bx_⟩
 ·rw [if_neg c4] at H
  have Hl:(At == 0) = false:=beq_eq_false_iff_ne.mpr c4
  have Hk:(At != 0) = true:=bne_iff_ne.mpr c4
  simp only [Option.some.injEq,Prod.mk.injEq] at H
  obtain ⟨rfl,rfl⟩:=H
  go_enter Tryz.func60,Tryz.ntmps60
  go_wp2_with (first|((with_reducible refine gate_dst (N:=3) rfl ?_);refine bv_ #[.int .i64 a1_0,.int .i64 a1_1,.int .i64 a1_2,.slice A1_3 l1_3.length c1_3,.slice A1_4 l1_4.length c1_4,.slice A1_5 l1_5.length c1_5] 26 ?_;clear HB;intro Bc hg Hy Aa Bj hb HB;clear hb hg;obtain ⟨Eu,Et,Es,Er,Ep,Eo,Ce,Cc,Cb,Ca,Bz,By⟩:=c6_ Aa)|((with_reducible refine gate_callee (f:=12) rfl ?_);refine gm_ (some 11) Tryz.func12 #[.agg #[.int .i64 a1_0,.int .i64 a1_1,.int .i64 a1_2,.slice A1_3 l1_3.length c1_3,.slice A1_4 l1_4.length c1_4,.slice A1_5 l1_5.length c1_5]] ?_;(with_reducible refine (record_Encode.calls k a1_0 a1_1 a1_2 _ _ l1_3 _ _ l1_4 _ _ l1_5 Bk At _ ?side1 ?side2 ?side3 ?side4 ?side5 ?side6 ?side7 A3.out).mono ?_);(case side1=>exact cx_ (Kd.C_below Aw.out HB.out));(case side2=>exact Ba.out);(case side3=>exact cx_ (Kd.C_below Av.out HB.out));(case side4=>exact Ay.out);(case side5=>exact cx_ (Kd.C_below Au.out HB.out));(case side6=>exact Ax.out);(case side7=>exact HLW.out.below bx_);rintro e Hx ⟨rfl,hb⟩;refine ⟨_,rfl,?_⟩;replace Aa:=bb_ Aa hb;replace HB:=bs_ hb;(try clear hb)))
  go_ret2
  exact ⟨rf_,bx_⟩
def rotr (x n:Int):Int:=Go.bits .or .u32 (shr .u32 x n) (shl .u32 x (32 - n))
def add32 (x y:Int):Int:=IntKind.u32.wrap (x + y)
def xor32 (x y:Int):Int:=Go.bits .xor .u32 x y
def and32 (x y:Int):Int:=Go.bits .and .u32 x y
def or32 (x y:Int):Int:=Go.bits .or .u32 x y
def shaK:List Int:=[0x428a2f98,0x71374491,0xb5c0fbcf,0xe9b5dba5,0x3956c25b,0x59f111f1,0x923f82a4,0xab1c5ed5,
    0xd807aa98,0x12835b01,0x243185be,0x550c7dc3,0x72be5d74,0x80deb1fe,0x9bdc06a7,0xc19bf174,
    0xe49b69c1,0xefbe4786,0x0fc19dc6,0x240ca1cc,0x2de92c6f,0x4a7484aa,0x5cb0a9dc,0x76f988da,
    0x983e5152,0xa831c66d,0xb00327c8,0xbf597fc7,0xc6e00bf3,0xd5a79147,0x06ca6351,0x14292967,
    0x27b70a85,0x2e1b2138,0x4d2c6dfc,0x53380d13,0x650a7354,0x766a0abb,0x81c2c92e,0x92722c85,
    0xa2bfe8a1,0xa81a664b,0xc24b8b70,0xc76c51a3,0xd192e819,0xd6990624,0xf40e3585,0x106aa070,
    0x19a4c116,0x1e376c08,0x2748774c,0x34b0bcb5,0x391c0cb3,0x4ed8aa4a,0x5b9cca4f,0x682e6ff3,
    0x748f82ee,0x78a5636f,0x84c87814,0x8cc70208,0x90befffa,0xa4506ceb,0xbef9a3f7,0xc67178f2]
structure H8 where
 a:Int
 b:Int
 c:Int
 d:Int
 e:Int
 f:Int
 g:Int
 h:Int
def H8.cells (s:H8):Array Value:=#[.int .u32 s.a,.int .u32 s.b,.int .u32 s.c,.int .u32 s.d,.int .u32 s.e,.int .u32 s.f,.int .u32 s.g,.int .u32 s.h]
def H8.list (s:H8):List Int:=[s.a,s.b,s.c,s.d,s.e,s.f,s.g,s.h]
def shaWord (p:ByteArray) (i:Nat):Int :=
 or32 (or32 (or32 (shl .u32 (bt p (4 * i)) 24) (shl .u32 (bt p (4 * i + 1)) 16)) (shl .u32 (bt p (4 * i + 2)) 8)) (bt p (4 * i + 3))
def shaNext (p:ByteArray) (l:List Int):Int :=
 if l.length < 16 then shaWord p l.length
 else
  let y:=rd l (l.length - 2)
  let x:=rd l (l.length - 15)
  add32 (add32 (add32 (xor32 (xor32 (rotr y 17) (rotr y 19)) (shr .u32 y 10)) (rd l (l.length - 7))) (xor32 (xor32 (rotr x 7) (rotr x 18)) (shr .u32 x 3))) (rd l (l.length - 16))
def shaSched (p:ByteArray):Nat→List Int
 | 0=>[]
 | n + 1=>shaSched p n ++ [shaNext p (shaSched p n)]
def shaT (s:H8) (k w:Int):Int :=
 add32 (add32 (add32 (add32 s.h (xor32 (xor32 (rotr s.e 6) (rotr s.e 11)) (rotr s.e 25))) (xor32 (and32 s.e s.f) (and32 (Go.bits .xor .u32 4294967295 s.e) s.g))) k) w
def shaU (s:H8):Int :=
 add32 (xor32 (xor32 (rotr s.a 2) (rotr s.a 13)) (rotr s.a 22)) (xor32 (xor32 (and32 s.a s.b) (and32 s.a s.c)) (and32 s.b s.c))
def shaRound (s:H8) (k w:Int):H8:=⟨add32 (shaT s k w) (shaU s),s.a,s.b,s.c,add32 s.d (shaT s k w),s.e,s.f,s.g⟩
def shaRounds (s:H8) (w:List Int):Nat→H8
 | 0=>s
 | n + 1=>shaRound (shaRounds s w n) (rd shaK n) (rd w n)
def H8.plus (s v:H8):H8:=⟨add32 v.a s.a,add32 v.b s.b,add32 v.c s.c,add32 v.d s.d,add32 v.e s.e,add32 v.f s.f,add32 v.g s.g,add32 v.h s.h⟩
def shaBlock (s:H8) (p:ByteArray):H8:=H8.plus s (shaRounds s (shaSched p 64) 64)
def shaInit:H8:=⟨0x6a09e667,0xbb67ae85,0x3c6ef372,0xa54ff53a,0x510e527f,0x9b05688c,0x1f83d9ab,0x5be0cd19⟩
theorem shaSched_length (p:ByteArray) (n:Nat):(shaSched p n).length = n:=by
 induction n with
 | zero=>rfl
 | succ n ih=>simp [shaSched,ih]
set_option maxHeartbeats 8000000
set_option maxRecDepth 100000
def bits_RotateLeft32.f (a0:Int) (a1:Int):Option (Int):=if 0≤(Go.bits .and .u64 (IntKind.u64.wrap (a1)) 31) then (if 0≤(IntKind.u64.wrap (32 - (Go.bits .and .u64 (IntKind.u64.wrap (a1)) 31))) then (some (Go.bits .or .u32 (shl .u32 a0 (Go.bits .and .u64 (IntKind.u64.wrap (a1)) 31)) (shr .u32 a0 (IntKind.u64.wrap (32 - (Go.bits .and .u64 (IntKind.u64.wrap (a1)) 31)))))) else (none)) else (none)
set_option maxHeartbeats 8000000
set_option maxRecDepth 100000
def record_rot.f (a0:Int) (a1:Int):Option (Int):=(bits_RotateLeft32.f a0 (wrap64 (-a1))).bind fun t229=>(some t229)
theorem bits_or_comm (x y:Int):Go.bits .or .u32 x y = Go.bits .or .u32 y x:=by
 unfold Go.bits
 simp [BitVec.or_comm]
theorem rot_count:∀ n:Fin 32,0 < n.val→Go.bits .and .u64 (IntKind.u64.wrap (wrap64 (-(n.val:Int)))) 31 = 32 - (n.val:Int)∧IntKind.u64.wrap (32 - (32 - (n.val:Int))) = n.val∧wrap64 (32 - (n.val:Int)) = 32 - (n.val:Int):=by decide +kernel
theorem rot_f (x:Int) (n:Nat) (h0:0 < n) (h1:n < 32):record_rot.f x (n:Int) = some (rotr x n):=by
 obtain ⟨a,b,_⟩:=rot_count ⟨n,h1⟩ h0
 unfold record_rot.f bits_RotateLeft32.f
 simp only [] at a b
 rw [a,b,if_pos (by omega),if_pos (by omega),Option.bind_some,bits_or_comm]
 rfl
set_option maxHeartbeats 8000000 in
set_option maxRecDepth 100000 in
theorem rl78_same (a0:Int) (a1:Int) (r:Int) (w:World) (h:bits_RotateLeft32.f a0 a1 = some r) :
  Calls Tryz.prog 102 #[.int .u32 a0,.int .i64 a1] w fun e w'=>e = .returned (.int .u32 r)∧w' = w:=by
 have H:(if 0≤(Go.bits .and .u64 (IntKind.u64.wrap (a1)) 31) then (if 0≤(IntKind.u64.wrap (32 - (Go.bits .and .u64 (IntKind.u64.wrap (a1)) 31))) then (some (Go.bits .or .u32 (shl .u32 a0 (Go.bits .and .u64 (IntKind.u64.wrap (a1)) 31)) (shr .u32 a0 (IntKind.u64.wrap (32 - (Go.bits .and .u64 (IntKind.u64.wrap (a1)) 31)))))) else (none)) else (none)) = some r:=h
 clear h
 obtain ⟨ji3,hji3⟩:∃ j_:Int,(Go.bits .and .u64 (IntKind.u64.wrap (a1)) 31) = j_:=⟨_,rfl⟩
 replace H:(if 0≤(ji3) then (if 0≤(IntKind.u64.wrap (32 - (ji3))) then (some (Go.bits .or .u32 (shl .u32 a0 (ji3)) (shr .u32 a0 (IntKind.u64.wrap (32 - (ji3)))))) else (none)) else (none)) = some r:=by first|(rw [hji3] at H;exact H)|(simp only [hji3] at H ⊢;exact H)
 by_cases c4:0≤(ji3)
 ·rw [if_pos c4] at H
  have Ah:=eq_true c4
  have Ag:decide (0≤(ji3)) = true:=decide_eq_true c4
  clear c4
  obtain ⟨ji5,hji5⟩:∃ j_:Int,(shl .u32 a0 (ji3)) = j_:=⟨_,rfl⟩
  replace H:(if 0≤(IntKind.u64.wrap (32 - (ji3))) then (some (Go.bits .or .u32 (ji5) (shr .u32 a0 (IntKind.u64.wrap (32 - (ji3)))))) else (none)) = some r:=by first|(rw [hji5] at H;exact H)|(simp only [hji5] at H ⊢;exact H)
  have Ad:(IntKind.u32.wrap (a0 * 2 ^ min (ji3).toNat 32)) = ji5:=hji5
  have Ac:(ji3)≤32→(IntKind.u32.wrap (a0 * 2 ^ (ji3).toNat)) = ji5:=shl_small hji5
  obtain ⟨ji6,hji6⟩:∃ j_:Int,(IntKind.u64.wrap (32 - (ji3))) = j_:=⟨_,rfl⟩
  replace H:(if 0≤(ji6) then (some (Go.bits .or .u32 (ji5) (shr .u32 a0 (ji6)))) else (none)) = some r:=by first|(rw [hji6] at H;exact H)|(simp only [hji6] at H ⊢;exact H)
  by_cases c7:0≤(ji6)
  ·rw [if_pos c7] at H
   have Af:=eq_true c7
   have Ae:decide (0≤(ji6)) = true:=decide_eq_true c7
   clear c7
   obtain ⟨ji8,hji8⟩:∃ j_:Int,(shr .u32 a0 (ji6)) = j_:=⟨_,rfl⟩
   replace H:(some (Go.bits .or .u32 (ji5) (ji8))) = some r:=by first|(rw [hji8] at H;exact H)|(simp only [hji8] at H ⊢;exact H)
   have Ab:(a0 / 2 ^ min (ji6).toNat 32) = ji8:=hji8
   have Aa:(ji6)≤32→(a0 / 2 ^ (ji6).toNat) = ji8:=shr_small hji8
   obtain rfl:=Option.some.inj H
   go_enter Tryz.func102,Tryz.ntmps102
   go_wp2
   go_ret
   exact ⟨by first|rfl|(simp;done)|(simp only [← hji3,← hji5,← hji6,← hji8]<;>(first|rfl|simp))|(simp [*];done),rfl⟩
  ·rw [if_neg c7] at H
   exact absurd H (by simp)
 ·rw [if_neg c4] at H
  exact absurd H (by simp)
set_option maxHeartbeats 8000000 in
set_option maxRecDepth 100000 in
theorem rot71_same (a0:Int) (a1:Int) (r:Int) (w:World) (h:record_rot.f a0 a1 = some r) :
  Calls Tryz.prog 80 #[.int .u32 a0,.int .i64 a1] w fun e w'=>e = .returned (.int .u32 r)∧w' = w:=by
 have H:((bits_RotateLeft32.f a0 (wrap64 (-a1))).bind fun Aa=>(some Aa)) = some r:=h
 clear h
 replace H:=Option.bind_eq_some_iff.mp H
 obtain ⟨Aa,Ab,H⟩:=H
 replace H:(some Aa) = some r:=H
 have A3:=Aside0.mk Ab
 clear Ab
 obtain rfl:=Option.some.inj H
 go_enter Tryz.func80,Tryz.ntmps80
 go_wp2_with (first|((with_reducible refine gate_callee (f:=102) rfl ?_);refine goesL_ (some 8) rfl rfl Tryz.func102 (by kernel_rfl) rfl #[.int .u32 a0,.int .i64 (wrap64 (-a1))] rfl (by (try simp only [List.map_toArray,List.map_cons,List.map_nil]);first|done|rfl|(simp only [List.length_drop,List.length_take];rfl)) ?_;(with_reducible refine (rl78_same a0 (wrap64 (-a1)) Aa _ A3.out).mono ?_);rintro e w' ⟨rfl,rfl⟩;refine ⟨_,rfl,?_⟩))
 go_ret
 exact ⟨by first|rfl|(simp;done)|(simp [*];done),rfl⟩
theorem rot71 (x:Int) (n:Nat) (h0:0 < n) (h1:n < 32) (w:World):Calls Tryz.prog 80 #[.int .u32 x,.int .i64 (n:Int)] w fun e w'=>e = .returned (.int .u32 (rotr x n))∧w' = w:=rot71_same x n _ w (rot_f x n h0 h1)
theorem C_of_blk {W:World} {g t n:Nat} {k:IntKind} {xs:List Int} (h:W.heap[g]? = some (.cells (nums k xs).toArray t (0,0))) (hl:xs.length = n) (hn:n≤9223372036854775807):Kd.C (Kd.int k) W (some ⟨g,0,none⟩) n xs:=by
 refine ⟨hl,hn,fun _=>⟨_,rfl,fun j p hj=>⟨[.int k p],rfl,rfl,fun i u hu=>?_⟩⟩⟩
 cases i with
 | zero =>
  have hu':Value.int k p = u:=by simpa using hu
  subst hu'
  show W.cell? ((⟨g,0,none⟩:Addr).add (j * 1 + 0)) = _
  have:(⟨g,0,none⟩:Addr).add (j * 1 + 0) = ⟨g,j,none⟩:=by unfold Addr.add;split<;>simp<;>omega
  rw [this,blk_cell h]
  simp [nums,hj]
 | succ i=>simp at hu
theorem nums_set (k:IntKind) (xs:List Int) (n z:Nat) (x y:Int) (h:xs.length = n):(nums k (xs ++ y :: List.replicate z 0)).toArray.setIfInBounds n (.int k x) = (nums k (xs ++ [x] ++ List.replicate z 0)).toArray:=by
 subst h
 simp [nums]
theorem grown_setRow {W:World} {g:Nat} (hg:g < W.heap.size) (cs:Array Value):W.grownBy (W.setRow g cs) (some g):=by
 refine ⟨rfl,rfl,rfl,by simp,fun k hk hne=>?_⟩
 exact setRow_other W g k cs (fun e=>hne (by rw [e]))
theorem store_event {P:Program} {ops:Array Oper} {rest:List Oper} {o:Oper} {a:Act} {W:World} {Q:Exit→Act→World→Prop} (hgd:o.guard = none) (ty:TypeId) (x y:Operand) (ho:o.op = .store ty x y)
  (hd:o.dst = none) (g:Nat) (cells:Array Value) (hx:a.eval x = .pointer (some ⟨g,0,none⟩)) (hy:a.eval y = .agg cells)
  (t:TypeId) (old:Array Value) (hg:W.heap[g]? = some (.cells old t (0,0))) (hi:(P.info? ty).map (·.size) = some cells.size) (hold:old.size = cells.size) (h1:cells.all (·.oneCell') = true)
  (h:∀ w1,w1.heap[g]? = some (.cells cells t (0,0))→W.grownBy w1 (some g)→wpList P ops Q rest a w1):wpList P ops Q (o :: rest) a W :=
 wpList_store_rowTo hgd ty x y ho hd g cells hx hy t old hg hi hold h1 (h _ (setRow_heap W g old cells t (0,0) hg) (grown_setRow (blk_lt hg) cells))
def schedCells (p:ByteArray) (k:Nat):Array Value:=(nums .u32 (shaSched p k ++ List.replicate (64 - k) 0)).toArray
theorem rot71_2 (x:Int) (w:World):Calls Tryz.prog 80 #[.int .u32 x,.int .i64 2] w fun e w'=>e = .returned (.int .u32 (rotr x 2))∧w' = w:=rot71 x 2 (by decide) (by decide) w
theorem rot71_6 (x:Int) (w:World):Calls Tryz.prog 80 #[.int .u32 x,.int .i64 6] w fun e w'=>e = .returned (.int .u32 (rotr x 6))∧w' = w:=rot71 x 6 (by decide) (by decide) w
theorem rot71_7 (x:Int) (w:World):Calls Tryz.prog 80 #[.int .u32 x,.int .i64 7] w fun e w'=>e = .returned (.int .u32 (rotr x 7))∧w' = w:=rot71 x 7 (by decide) (by decide) w
theorem rot71_11 (x:Int) (w:World):Calls Tryz.prog 80 #[.int .u32 x,.int .i64 11] w fun e w'=>e = .returned (.int .u32 (rotr x 11))∧w' = w:=rot71 x 11 (by decide) (by decide) w
theorem rot71_13 (x:Int) (w:World):Calls Tryz.prog 80 #[.int .u32 x,.int .i64 13] w fun e w'=>e = .returned (.int .u32 (rotr x 13))∧w' = w:=rot71 x 13 (by decide) (by decide) w
theorem rot71_17 (x:Int) (w:World):Calls Tryz.prog 80 #[.int .u32 x,.int .i64 17] w fun e w'=>e = .returned (.int .u32 (rotr x 17))∧w' = w:=rot71 x 17 (by decide) (by decide) w
theorem rot71_18 (x:Int) (w:World):Calls Tryz.prog 80 #[.int .u32 x,.int .i64 18] w fun e w'=>e = .returned (.int .u32 (rotr x 18))∧w' = w:=rot71 x 18 (by decide) (by decide) w
theorem rot71_19 (x:Int) (w:World):Calls Tryz.prog 80 #[.int .u32 x,.int .i64 19] w fun e w'=>e = .returned (.int .u32 (rotr x 19))∧w' = w:=rot71 x 19 (by decide) (by decide) w
theorem rot71_22 (x:Int) (w:World):Calls Tryz.prog 80 #[.int .u32 x,.int .i64 22] w fun e w'=>e = .returned (.int .u32 (rotr x 22))∧w' = w:=rot71 x 22 (by decide) (by decide) w
theorem rot71_25 (x:Int) (w:World):Calls Tryz.prog 80 #[.int .u32 x,.int .i64 25] w fun e w'=>e = .returned (.int .u32 (rotr x 25))∧w' = w:=rot71 x 25 (by decide) (by decide) w
theorem add32_mod (x y:Int):add32 x y = (x + y) % 4294967296:=by
 unfold add32 IntKind.wrap
 simp [IntKind.bits,IntKind.signed]
theorem add32_4 (a b c d:Int):add32 (add32 (add32 a b) c) d = (a + b + c + d) % 4294967296:=by simp only [add32_mod];omega
theorem wrap_byte (u:UInt8):IntKind.u32.wrap (u.toNat:Int) = (u.toNat:Int):=by
 have h:=u.toNat_lt
 unfold IntKind.wrap
 simp [IntKind.bits,IntKind.signed]
 omega
theorem bt_of (p:ByteArray) (i:Nat) (j:Int) (h:i < p.size) (e:j = (i:Int)):((p[i]'h).toNat:Int) = bt p j:=by
 subst e
 exact bt_at p (i:Int) (by simpa using h)
theorem word_eq (p:ByteArray) (kk i0 i1 i2 i3:Nat) (l0:i0 < p.size) (l1:i1 < p.size) (l2:i2 < p.size) (l3:i3 < p.size) (e0:4 * kk = i0) (e1:4 * kk + 1 = i1) (e2:4 * kk + 2 = i2) (e3:4 * kk + 3 = i3) :
  shaWord p kk = Go.bits .or .u32 (Go.bits .or .u32 (Go.bits .or .u32 (IntKind.u32.wrap (IntKind.u32.wrap ((p[i0]'l0).toNat:Int) * 16777216)) (IntKind.u32.wrap (IntKind.u32.wrap ((p[i1]'l1).toNat:Int) * 65536))) (IntKind.u32.wrap (IntKind.u32.wrap ((p[i2]'l2).toNat:Int) * 256))) (IntKind.u32.wrap ((p[i3]'l3).toNat:Int)):=by
 rw [wrap_byte,wrap_byte,wrap_byte,wrap_byte,bt_of p i0 (4 * (kk:Int)) l0 (by omega),bt_of p i1 (4 * (kk:Int) + 1) l1 (by omega),bt_of p i2 (4 * (kk:Int) + 2) l2 (by omega),bt_of p i3 (4 * (kk:Int) + 3) l3 (by omega)]
 rfl
theorem sched_cell {W:World} {G kk t:Nat} {p:ByteArray} (h:W.heap[G]? = some (.cells (schedCells p kk) t (0,0))) (hk:kk < 64):W.cell? ⟨G,kk,none⟩ = some (.int .u32 0):=by
 rw [blk_cell h kk]
 obtain ⟨z,hz⟩:∃ z,64 - kk = z + 1:=⟨63 - kk,by omega⟩
 unfold schedCells
 rw [hz]
 simp [nums,shaSched_length,List.replicate_succ]
theorem sched_old {W:World} {G kk t j:Nat} {p:ByteArray} (h:W.heap[G]? = some (.cells (schedCells p kk) t (0,0))) (hj:j < kk):W.cell? ⟨G,j,none⟩ = some (.int .u32 (rd (shaSched p kk) j)):=by
 rw [blk_cell h j]
 unfold schedCells
 have hl:j < (shaSched p kk).length:=by rw [shaSched_length];exact hj
 simp [nums,List.getElem?_append_left,hl,rd,List.getD_eq_getElem?_getD]
def mixL (vl sl:List Int) (k:Nat):List Int:=(List.zipWith add32 vl sl).take k ++ vl.drop k
theorem list_cell {W:World} {G kk t:Nat} {xs:List Int} (h:W.heap[G]? = some (.cells (nums .u32 xs).toArray t (0,0))) (hj:kk < xs.length):W.cell? ⟨G,kk,none⟩ = some (.int .u32 (rd xs kk)):=by
 rw [blk_cell h kk]
 simp [nums,hj,rd,List.getD_eq_getElem?_getD]
theorem mix_at {vl sl:List Int} (h1:vl.length = 8) (h2:sl.length = 8) {k:Nat} (hk:k < 8):mixL vl sl k = (List.zipWith add32 vl sl).take k ++ rd vl k :: vl.drop (k + 1):=by
 unfold mixL
 congr 1
 rw [List.drop_eq_getElem_cons (by omega)]
 simp [rd,List.getD_eq_getElem?_getD,show k < vl.length by omega]
theorem mix_cell {W:World} {G kk t:Nat} {vl sl:List Int} (h1:vl.length = 8) (h2:sl.length = 8) (h:W.heap[G]? = some (.cells (nums .u32 (mixL vl sl kk)).toArray t (0,0))) (hj:kk < 8):W.cell? ⟨G,kk,none⟩ = some (.int .u32 (rd vl kk)):=by
 rw [blk_cell h kk,mix_at h1 h2 hj]
 have hl:((List.zipWith add32 vl sl).take kk).length = kk:=by simp [h1,h2];omega
 simp [nums,h1,h2,Nat.min_eq_left (Nat.le_of_lt hj)]
theorem mix_put {W:World} {G kk t:Nat} {vl sl:List Int} {x:Int} (h1:vl.length = 8) (h2:sl.length = 8) (h:W.heap[G]? = some (.cells (nums .u32 (mixL vl sl kk)).toArray t (0,0))) (hj:kk < 8) (hx:add32 (rd vl kk) (rd sl kk) = x) :
  (W.setCell ⟨G,kk,none⟩ (.int .u32 x)).heap[G]? = some (.cells (nums .u32 (mixL vl sl (kk + 1))).toArray t (0,0)):=by
 rw [mix_at h1 h2 hj] at h
 refine blk_put h kk _ ?_
 subst hx
 have hl:((List.zipWith add32 vl sl).take kk).length = kk:=by simp [h1,h2];omega
 have e:mixL vl sl (kk + 1) = (List.zipWith add32 vl sl).take kk ++ [add32 (rd vl kk) (rd sl kk)] ++ vl.drop (kk + 1):=by
  unfold mixL
  rw [List.take_succ_eq_append_getElem (by simp [h1,h2];exact hj)]
  simp [rd,List.getD_eq_getElem?_getD,h1,h2,hj]
 rw [e]
 simp [nums,h1,h2,Nat.min_eq_left (Nat.le_of_lt hj)]
theorem k_cell {W:World} {G kk t:Nat} (h:W.heap[G]? = some (.cells (nums .u32 shaK).toArray t (0,0))) (hj:kk < 64):W.cell? ⟨G,kk,none⟩ = some (.int .u32 (rd shaK kk)):=by
 rw [blk_cell h kk]
 have hl:kk < shaK.length:=hj
 simp [nums,hl,rd,List.getD_eq_getElem?_getD]
theorem sched_put {W:World} {G kk t:Nat} {p:ByteArray} {x:Int} (h:W.heap[G]? = some (.cells (schedCells p kk) t (0,0))) (hk:kk < 64) (hx:shaNext p (shaSched p kk) = x) :
  (W.setCell ⟨G,kk,none⟩ (.int .u32 x)).heap[G]? = some (.cells (schedCells p (kk + 1)) t (0,0)):=by
 refine blk_put h kk _ ?_
 subst hx
 obtain ⟨z,hz⟩:∃ z,64 - kk = z + 1:=⟨63 - kk,by omega⟩
 unfold schedCells
 rw [hz,List.replicate_succ,show 64 - (kk + 1) = z from by omega]
 exact nums_set .u32 (shaSched p kk) kk z _ 0 (shaSched_length _ _)
set_option maxHeartbeats 4000000 in
set_option maxRecDepth 100000 in
theorem block56 (s:H8) (p:ByteArray) (w:World) (hp:p.size = 64) :
  Calls Tryz.prog 69 #[.agg s.cells,.string p] w fun e w'=>e = .returned (.agg (shaBlock s p).cells)∧Below w.heap.size w w':=by
 have HP:=Aside0.mk hp
 have Cj:64≤p.size:=by omega
 have Ci:p.size≤64:=by omega
 clear hp
 obtain ⟨s0,s1,s2,s3,s4,s5,s6,s7⟩:=s
 show Calls Tryz.prog 69 #[.agg #[.int .u32 s0,.int .u32 s1,.int .u32 s2,.int .u32 s3,.int .u32 s4,.int .u32 s5,.int .u32 s6,.int .u32 s7],.string p] w _
 go_enter Tryz.func69,Tryz.ntmps69
 go_wp2_with (first
  | ((with_reducible refine gate_dst (N:=21) rfl ?_);refine wpList_buildFlatArrTo rfl 126 101 64 _ rfl .u32 shaK (some 21) rfl Tryz.underlying126 (by kernel_rfl) (by kernel_rfl) (by kernel_rfl) ?_)
  | ((with_reducible refine gate_dst (N:=5) rfl ?_);refine box_event rfl (N:=5) rfl (cs:=(nums .u32 (List.replicate 64 0)).toArray) (t:=126) (by first|(go_simp;done)|(go_simp;rfl)) ?_;intro g5 Ao w5 Aq Ai)
  | ((with_reducible refine gate_store (t:=126) (p:=5) (v:=.tmp 21) rfl ?_);refine store_event rfl 126 (.tmp 5) (.tmp 21) rfl rfl g5 (nums .u32 shaK).toArray rfl rfl 126 _ Aq (by kernel_rfl) (by kernel_rfl) (by kernel_rfl) ?_;intro w6 Ad Aa)
  | ((with_reducible refine gate_dst (N:=6) rfl ?_);refine box_event rfl (N:=6) rfl (cs:=(nums .u32 (List.replicate 64 0)).toArray) (t:=126) (by first|(go_simp;done)|(go_simp;rfl)) ?_;intro g7 An w7 Ap Ag))
 have Ah:w.heap.size + 2 < w5.heap.size:=by have:=blk_lt Aq;rw [Ao] at this;simp at this;omega
 have e5:g5 = w.heap.size + 1 + 1:=by rw [Ao];simp
 have Br:w5.heap.size≤w6.heap.size:=Aa.size
 have Ch:w6.heap.size < w7.heap.size:=by have:=blk_lt Ap;rw [An] at this;exact this
 have B5:=Aside0.mk (below_step (below_alloc (below_alloc (Below.refl w.heap.size w) _) _) Ai)
 have B6:=Aside0.mk (pw_below_grown B5.out _ B5.out.size Aa (fun k hk=>by injection hk with hk;omega))
 have B7:=Aside0.mk (below_step B6.out Ag)
 have S7:=Aside0.mk (blk_below (blk_grown (blk_below (blk_alloc (blk_new w _) _) Ai) Aa (fun h=>by injection h with h;omega)) Ag)
 have R7:=Aside0.mk (show w7.heap[w.heap.size + 1]? = some (.cells (nums .u32 (List.replicate 8 0)).toArray 103 (0,0)) from by
  have h0:=blk_new (w.alloc (.cells #[.int .u32 s0,.int .u32 s1,.int .u32 s2,.int .u32 s3,.int .u32 s4,.int .u32 s5,.int .u32 s6,.int .u32 s7] 103)) (.cells (nums .u32 (List.replicate 8 0)).toArray 103)
  rw [show (w.alloc (.cells #[.int .u32 s0,.int .u32 s1,.int .u32 s2,.int .u32 s3,.int .u32 s4,.int .u32 s5,.int .u32 s6,.int .u32 s7] 103)).heap.size = w.heap.size + 1 from by simp] at h0
  exact blk_below (blk_grown (blk_below h0 Ai) Aa (fun h=>by injection h with h;omega)) Ag)
 have K7:=Aside0.mk (show w7.heap[w.heap.size + 1 + 1]? = _ from e5 ▸ blk_below Ad Ag)
 have Z7:=Aside0.mk (show w7.heap[w6.heap.size]? = _ from An ▸ Ap)
 clear Aq Ai Ad Aa Ap Ag B5 B6 Ao An e5
 generalize hG:w6.heap.size = G at *
 have Cg:w.heap.size + 2 < G:=by omega
 clear Ah Br hG w5 w6 g5 g7
 go_loopg [22] 64 (fun gg Bn wr=>∃ kk:Nat,kk≤64∧64 - kk≤gg∧Bn = .int .i64 kk∧Aside0 (Below w.heap.size w wr)
  ∧ Aside0 (wr.heap[w.heap.size]? = some (.cells #[.int .u32 s0,.int .u32 s1,.int .u32 s2,.int .u32 s3,.int .u32 s4,.int .u32 s5,.int .u32 s6,.int .u32 s7] 103 (0,0)))
  ∧ Aside0 (wr.heap[w.heap.size + 1 + 1]? = some (.cells (nums .u32 shaK).toArray 126 (0,0)))
  ∧ Aside0 (wr.heap[G]? = some (.cells (schedCells p kk) 126 (0,0)))
  ∧ Aside0 (wr.heap[w.heap.size + 1]? = some (.cells (nums .u32 (List.replicate 8 0)).toArray 103 (0,0))))
 case atStart =>
  exact ⟨0,Nat.zero_le _,by omega,rfl,B7,S7,K7,Z7,R7⟩
 case round =>
  obtain ⟨kk,hkk,hg,rfl,BW,BS,BKK,BK,BR⟩:=hrel
  by_cases hlt:kk < 64
  ·have Ab:(kk:Int) < 64:=by omega
   by_cases Bj:kk < 16
   ·have As:(kk:Int) < 16:=by omega
    go_wp2_with fail
    have q0:IntKind.i64.wrap (4 * (kk:Int)) = ((4 * kk:Nat):Int):=by rw [IntWalk.i64_in _ (by omega)];omega
    have q1:IntKind.i64.wrap (((4 * kk:Nat):Int) + 1) = ((4 * kk + 1:Nat):Int):=by rw [IntWalk.i64_in _ (by omega)];omega
    have q2:IntKind.i64.wrap (((4 * kk:Nat):Int) + 2) = ((4 * kk + 2:Nat):Int):=by rw [IntWalk.i64_in _ (by omega)];omega
    have q3:IntKind.i64.wrap (((4 * kk:Nat):Int) + 3) = ((4 * kk + 3:Nat):Int):=by rw [IntWalk.i64_in _ (by omega)];omega
    have l0:4 * kk < p.size:=by omega
    have l1:4 * kk + 1 < p.size:=by omega
    have l2:4 * kk + 2 < p.size:=by omega
    have l3:4 * kk + 3 < p.size:=by omega
    generalize e1:4 * kk + 1 = i1 at q1 l1
    generalize e2:4 * kk + 2 = i2 at q2 l2
    generalize e3:4 * kk + 3 = i3 at q3 l3
    generalize e0:4 * kk = i0 at q0 q1 q2 q3 l0
    have E0:=Aside0.mk e0
    have E1:=Aside0.mk e1
    have E2:=Aside0.mk e2
    have E3:=Aside0.mk e3
    clear e0 e1 e2 e3
    go_still_tail 31,(by kernel_rfl)
    change wpList _ _ _ _ _ wr.drew
    have BW':=Aside0.mk (below_drew1 BW.out)
    have BS':=Aside0.mk (blk_drew BS.out)
    have BK':=Aside0.mk (blk_drew BKK.out)
    have BZ':=Aside0.mk (blk_drew BK.out)
    have BR':=Aside0.mk (blk_drew BR.out)
    generalize wr.drew = W at BW' BS' BK' BZ' BR' ⊢
    clear BW BS BKK BK BR
    have hc:W.cell? ⟨G,kk,none⟩ = some (.int .u32 0):=sched_cell BZ'.out hlt
    have hf:W.frozen? ⟨G,kk,none⟩ = false:=blk_frozen BZ'.out kk
    clear q0 q1 q2 q3
    go_wp2_with fail
    go_roundg (64 - (kk + 1))
    case measure=>omega
    case rel =>
     refine ⟨kk + 1,by omega,by omega,by go_num,⟨below_set BW'.out (by omega)⟩,⟨blk_far BS'.out (by show _≠G;omega) _⟩,⟨blk_far BK'.out (by show _≠G;omega) _⟩,⟨?_⟩,⟨blk_far BR'.out (by show _≠G;omega) _⟩⟩
     refine sched_put BZ'.out hlt ?_
     rw [shaNext,if_pos (by rw [shaSched_length];exact Bj),shaSched_length]
     exact word_eq p kk i0 i1 i2 i3 l0 l1 l2 l3 E0.out E1.out E2.out E3.out
   ·have As:¬ (kk:Int) < 16:=by omega
    have Bc:IntKind.i64.wrap ((kk:Int) - 15) = ((kk - 15:Nat):Int):=by rw [IntWalk.i64_in _ (by omega)];omega
    have q2:IntKind.i64.wrap ((kk:Int) - 2) = ((kk - 2:Nat):Int):=by rw [IntWalk.i64_in _ (by omega)];omega
    have q7:IntKind.i64.wrap ((kk:Int) - 7) = ((kk - 7:Nat):Int):=by rw [IntWalk.i64_in _ (by omega)];omega
    have Bb:IntKind.i64.wrap ((kk:Int) - 16) = ((kk - 16:Nat):Int):=by rw [IntWalk.i64_in _ (by omega)];omega
    have Af:=sched_old BK.out (j:=kk - 15) (by omega)
    have c2:=sched_old BK.out (j:=kk - 2) (by omega)
    have c7:=sched_old BK.out (j:=kk - 7) (by omega)
    have Ae:=sched_old BK.out (j:=kk - 16) (by omega)
    have Bq:kk - 15 < 64:=by omega
    have m2:kk - 2 < 64:=by omega
    have m7:kk - 7 < 64:=by omega
    have Bp:kk - 16 < 64:=by omega
    generalize Bl:kk - 15 = Bd at Bc Af Bq
    generalize e2:kk - 2 = i2 at q2 c2 m2
    generalize e7:kk - 7 = i7 at q7 c7 m7
    generalize Bk:kk - 16 = Am at Bb Ae Bp
    have Ca:=Aside0.mk Bl
    have E2:=Aside0.mk e2
    have E7:=Aside0.mk e7
    have Bz:=Aside0.mk Bk
    clear Bl e2 e7 Bk
    have z7:(i7:Int) < 64:=by omega
    have Cc:(Am:Int) < 64:=by omega
    generalize Ba:rd (shaSched p kk) Bd = Cf at Af
    generalize x2:rd (shaSched p kk) i2 = v2 at c2
    generalize x7:rd (shaSched p kk) i7 = v7 at c7
    generalize Ay:rd (shaSched p kk) Am = Ce at Ae
    have Bu:=Aside0.mk Ba
    have X2:=Aside0.mk x2
    have X7:=Aside0.mk x7
    have Bt:=Aside0.mk Ay
    clear Ba x2 x7 Ay
    go_wp2_with fail
    go_quiet (fail)
    have BW':=Aside0.mk (pw_below_drewN BW.out nq)
    have BS':=Aside0.mk (blk_drewN BS.out nq)
    have BK':=Aside0.mk (blk_drewN BKK.out nq)
    have BZ':=Aside0.mk (blk_drewN BK.out nq)
    have BR':=Aside0.mk (blk_drewN BR.out nq)
    replace Af:(wr.drewN nq).cell? _ = _:=Af
    replace c2:(wr.drewN nq).cell? _ = _:=c2
    replace c7:(wr.drewN nq).cell? _ = _:=c7
    replace Ae:(wr.drewN nq).cell? _ = _:=Ae
    generalize wr.drewN nq = W0 at BW' BS' BK' BZ' BR' Af c2 c7 Ae ⊢
    clear BW BS BKK BK BR
    go_wp2_with fail
    go_still_tail 29,(by kernel_rfl)
    still_call (rot71_17 _ _)
    repeat still_step
    still_call (rot71_19 _ _)
    repeat still_step
    still_call (rot71_7 _ _)
    repeat still_step
    still_call (rot71_18 _ _)
    repeat still_step
    refine wpStill_nil ?_
    change wpList _ _ _ _ _ W0.drew
    have BW:=Aside0.mk (below_drew1 BW'.out)
    have BS:=Aside0.mk (blk_drew BS'.out)
    have BKK:=Aside0.mk (blk_drew BK'.out)
    have BK:=Aside0.mk (blk_drew BZ'.out)
    have BR:=Aside0.mk (blk_drew BR'.out)
    generalize W0.drew = W at BW BS BKK BK BR ⊢
    clear BW' BS' BK' BZ' BR' Af c2 c7 Ae
    have hc:W.cell? ⟨G,kk,none⟩ = some (.int .u32 0):=sched_cell BK.out hlt
    have hf:W.frozen? ⟨G,kk,none⟩ = false:=blk_frozen BK.out kk
    clear Bc q2 q7 Bb
    go_wp2_with fail
    go_roundg (64 - (kk + 1))
    case measure=>omega
    case rel =>
     refine ⟨kk + 1,by omega,by omega,by go_num,⟨below_set BW.out (by omega)⟩,⟨blk_far BS.out (by show _≠G;omega) _⟩,⟨blk_far BKK.out (by show _≠G;omega) _⟩,⟨?_⟩,⟨blk_far BR.out (by show _≠G;omega) _⟩⟩
     refine sched_put BK.out hlt ?_
     have Bo:¬ (shaSched p kk).length < 16:=by rw [shaSched_length];exact Bj
     rw [shaNext,if_neg Bo,shaSched_length]
     rw [show ((kk:Int) - 2) = (i2:Int) from by have:=E2.out;omega,show ((kk:Int) - 15) = (Bd:Int) from by have:=Ca.out;omega,show ((kk:Int) - 7) = (i7:Int) from by have:=E7.out;omega,show ((kk:Int) - 16) = (Am:Int) from by have:=Bz.out;omega]
     rw [X2.out,Bu.out,X7.out,Bt.out]
     exact add32_4 _ _ _ _
  ·have Ab:¬ (kk:Int) < 64:=by omega
   obtain rfl:kk = 64:=by omega
   have d0:wr.cell? ⟨w.heap.size,0,none⟩ = some (.int .u32 s0):=blk_cell BS.out 0
   have d1:wr.cell? ⟨w.heap.size,1,none⟩ = some (.int .u32 s1):=blk_cell BS.out 1
   have d2:wr.cell? ⟨w.heap.size,2,none⟩ = some (.int .u32 s2):=blk_cell BS.out 2
   have d3:wr.cell? ⟨w.heap.size,3,none⟩ = some (.int .u32 s3):=blk_cell BS.out 3
   have d4:wr.cell? ⟨w.heap.size,4,none⟩ = some (.int .u32 s4):=blk_cell BS.out 4
   have d5:wr.cell? ⟨w.heap.size,5,none⟩ = some (.int .u32 s5):=blk_cell BS.out 5
   have d6:wr.cell? ⟨w.heap.size,6,none⟩ = some (.int .u32 s6):=blk_cell BS.out 6
   have d7:wr.cell? ⟨w.heap.size,7,none⟩ = some (.int .u32 s7):=blk_cell BS.out 7
   have hG:=blk_lt BK.out
   go_wp2_with fail
   have Au:=Aside0.mk (below_alloc BW.out (.cells #[.int .u32 s0,.int .u32 s1,.int .u32 s2,.int .u32 s3,.int .u32 s4,.int .u32 s5,.int .u32 s6,.int .u32 s7] 103))
   have Av:=Aside0.mk (blk_alloc BS.out (.cells #[.int .u32 s0,.int .u32 s1,.int .u32 s2,.int .u32 s3,.int .u32 s4,.int .u32 s5,.int .u32 s6,.int .u32 s7] 103))
   have Ac:=Aside0.mk (blk_alloc BKK.out (.cells #[.int .u32 s0,.int .u32 s1,.int .u32 s2,.int .u32 s3,.int .u32 s4,.int .u32 s5,.int .u32 s6,.int .u32 s7] 103))
   have Ax:=Aside0.mk (blk_alloc BK.out (.cells #[.int .u32 s0,.int .u32 s1,.int .u32 s2,.int .u32 s3,.int .u32 s4,.int .u32 s5,.int .u32 s6,.int .u32 s7] 103))
   have Aw:=Aside0.mk (blk_alloc BR.out (.cells #[.int .u32 s0,.int .u32 s1,.int .u32 s2,.int .u32 s3,.int .u32 s4,.int .u32 s5,.int .u32 s6,.int .u32 s7] 103))
   have Ak:=Aside0.mk (blk_new wr (.cells #[.int .u32 s0,.int .u32 s1,.int .u32 s2,.int .u32 s3,.int .u32 s4,.int .u32 s5,.int .u32 s6,.int .u32 s7] 103))
   generalize wr.alloc (.cells #[.int .u32 s0,.int .u32 s1,.int .u32 s2,.int .u32 s3,.int .u32 s4,.int .u32 s5,.int .u32 s6,.int .u32 s7] 103) = W1 at Au Av Ac Ax Aw Ak ⊢
   clear d0 d1 d2 d3 d4 d5 d6 d7 BW BS BKK BK BR
   generalize wr.heap.size = H at hG Ak ⊢
   go_loopg [97] 64 (fun gg Bm wr=>∃ kk:Nat,kk≤64∧64 - kk≤gg∧Bm = .int .i64 kk∧Aside0 (Below w.heap.size w wr)
    ∧ Aside0 (wr.heap[w.heap.size]? = some (.cells #[.int .u32 s0,.int .u32 s1,.int .u32 s2,.int .u32 s3,.int .u32 s4,.int .u32 s5,.int .u32 s6,.int .u32 s7] 103 (0,0)))
    ∧ Aside0 (wr.heap[w.heap.size + 1 + 1]? = some (.cells (nums .u32 shaK).toArray 126 (0,0)))
    ∧ Aside0 (wr.heap[G]? = some (.cells (schedCells p 64) 126 (0,0)))
    ∧ Aside0 (wr.heap[H]? = some (.cells (shaRounds ⟨s0,s1,s2,s3,s4,s5,s6,s7⟩ (shaSched p 64) kk).cells 103 (0,0)))
    ∧ Aside0 (wr.heap[w.heap.size + 1]? = some (.cells (nums .u32 (List.replicate 8 0)).toArray 103 (0,0))))
   case atStart=>exact ⟨0,Nat.zero_le _,by omega,rfl,Au,Av,Ac,Ax,Ak,Aw⟩
   case round =>
    clear Au Av Ac Ax Ak Aw
    obtain ⟨kk,hkk,hg,rfl,BW,BS,BKK,BK,BV,BR⟩:=hrel
    by_cases hlt:kk < 64
    ·have Ab:(kk:Int) < 64:=by omega
     have hst:=BV.out
     generalize hs:shaRounds ⟨s0,s1,s2,s3,s4,s5,s6,s7⟩ (shaSched p 64) kk = st at hst
     have HS:=Aside0.mk hs
     clear hs BV
     obtain ⟨a,b,c,d,e,f,g,h⟩:=st
     have d0:wr.cell? ⟨H,0,none⟩ = some (.int .u32 a):=blk_cell hst 0
     have d1:wr.cell? ⟨H,1,none⟩ = some (.int .u32 b):=blk_cell hst 1
     have d2:wr.cell? ⟨H,2,none⟩ = some (.int .u32 c):=blk_cell hst 2
     have d3:wr.cell? ⟨H,3,none⟩ = some (.int .u32 d):=blk_cell hst 3
     have d4:wr.cell? ⟨H,4,none⟩ = some (.int .u32 e):=blk_cell hst 4
     have d5:wr.cell? ⟨H,5,none⟩ = some (.int .u32 f):=blk_cell hst 5
     have d6:wr.cell? ⟨H,6,none⟩ = some (.int .u32 g):=blk_cell hst 6
     have d7:wr.cell? ⟨H,7,none⟩ = some (.int .u32 h):=blk_cell hst 7
     have BV:=Aside0.mk hst
     clear hst
     go_wp2_with fail
     go_quiet (fail)
     clear d0 d1 d2 d3 d4 d5 d6 d7
     replace BW:=Aside0.mk (pw_below_drewN BW.out nq)
     replace BS:=Aside0.mk (blk_drewN BS.out nq)
     replace BKK:=Aside0.mk (blk_drewN BKK.out nq)
     replace BK:=Aside0.mk (blk_drewN BK.out nq)
     replace BV:=Aside0.mk (blk_drewN BV.out nq)
     replace BR:=Aside0.mk (blk_drewN BR.out nq)
     generalize wr.drewN nq = W2 at BW BS BKK BK BV BR ⊢
     have d7:W2.cell? ⟨H,7,none⟩ = some (.int .u32 h):=blk_cell BV.out 7
     have kc:W2.cell? ⟨w.heap.size + 1 + 1,kk,none⟩ = some (.int .u32 (rd shaK kk)):=k_cell BKK.out hlt
     have wc:W2.cell? ⟨G,kk,none⟩ = some (.int .u32 (rd (shaSched p 64) kk)):=sched_old BK.out hlt
     generalize Bi:rd shaK (kk:Int) = kv at kc
     generalize Be:rd (shaSched p 64) (kk:Int) = wv at wc
     have By:=Aside0.mk Bi
     have Bv:=Aside0.mk Be
     clear Bi Be
     go_wp2_with fail
     refine wp_region_still_lit (by kernel_rfl) (by kernel_rfl) ?_
     repeat still_step
     still_call (rot71_6 _ _)
     repeat still_step
     still_call (rot71_11 _ _)
     repeat still_step
     still_call (rot71_25 _ _)
     repeat still_step
     refine wpStill_nil ?_
     have hT:shaT ⟨a,b,c,d,e,f,g,h⟩ kv wv = IntKind.u32.wrap (IntKind.u32.wrap (IntKind.u32.wrap (IntKind.u32.wrap (h + Go.bits BinOp.xor IntKind.u32 (Go.bits BinOp.xor IntKind.u32 (rotr e 6) (rotr e 11)) (rotr e 25)) + Go.bits BinOp.xor IntKind.u32 (Go.bits BinOp.and IntKind.u32 e f) (Go.bits BinOp.and IntKind.u32 (Go.bits BinOp.xor IntKind.u32 (if IntKind.u32.signed = true then -1 else IntKind.u32.max) e) g)) + kv) + wv):=rfl
     rw [← hT]
     clear hT
     generalize hT:shaT ⟨a,b,c,d,e,f,g,h⟩ kv wv = T
     have HT:=Aside0.mk hT
     clear hT d7 kc wc
     change Exit.then _ _ _ _ W2.drew
     replace BW:=Aside0.mk (below_drew1 BW.out)
     replace BS:=Aside0.mk (blk_drew BS.out)
     replace BKK:=Aside0.mk (blk_drew BKK.out)
     replace BK:=Aside0.mk (blk_drew BK.out)
     replace BV:=Aside0.mk (blk_drew BV.out)
     replace BR:=Aside0.mk (blk_drew BR.out)
     generalize W2.drew = W3 at BW BS BKK BK BV BR ⊢
     have d3:W3.cell? ⟨H,3,none⟩ = some (.int .u32 d):=blk_cell BV.out 3
     go_wp2_with fail
     refine (rot71_2 _ _).mono ?_
     rintro e' w' ⟨rfl,rfl⟩
     go_wp2_with fail
     refine (rot71_13 _ _).mono ?_
     rintro e' w' ⟨rfl,rfl⟩
     go_wp2_with fail
     refine (rot71_22 _ _).mono ?_
     rintro e' w' ⟨rfl,rfl⟩
     go_wp2_with (((with_reducible refine gate_store (t:=103) (p:=10) (v:=.tmp 173) rfl ?_);(refine store_event rfl 103 (.tmp 10) (.tmp 173) rfl rfl H _ rfl rfl 103 _ BV.out (by kernel_rfl) (by rfl) (by simp [Value.oneCell']) ?_);intro w6 Ad Aa))
     go_roundg (64 - (kk + 1))
     case measure=>omega
     case rel =>
      refine ⟨kk + 1,by omega,by omega,by go_num,⟨pw_below_grown BW.out _ BW.out.size Aa (fun k hk=>by injection hk with hk;omega)⟩,⟨blk_grown BS.out Aa (fun h=>by injection h with h;omega)⟩,⟨blk_grown BKK.out Aa (fun h=>by injection h with h;omega)⟩,⟨blk_grown BK.out Aa (fun h=>by injection h with h;omega)⟩,⟨?_⟩,⟨blk_grown BR.out Aa (fun h=>by injection h with h;omega)⟩⟩
      rw [Ad]
      show _ = some (Obj.cells (shaRound (shaRounds ⟨s0,s1,s2,s3,s4,s5,s6,s7⟩ (shaSched p 64) kk) (rd shaK kk) (rd (shaSched p 64) kk)).cells 103 (0,0))
      rw [HS.out,By.out,Bv.out]
      unfold shaRound H8.cells
      rw [HT.out]
      unfold shaU
      simp only [add32_mod,xor32,and32]
      have e1:∀ x y:Int,(T + (x + y)) % 4294967296 = (T + (x + y) % 4294967296) % 4294967296:=fun x y=>by omega
      first|rfl|rw [e1]
    ·have Ab:¬ (kk:Int) < 64:=by omega
     obtain rfl:kk = 64:=by omega
     generalize hs:shaRounds ⟨s0,s1,s2,s3,s4,s5,s6,s7⟩ (shaSched p 64) 64 = st at BV
     have HS:=Aside0.mk hs
     clear hs
     obtain ⟨a,b,c,d,e,f,g,h⟩:=st
     go_wp2_with fail
     generalize hvl:([a,b,c,d,e,f,g,h]:List Int) = vl
     generalize hsl:([s0,s1,s2,s3,s4,s5,s6,s7]:List Int) = sl
     have Bh:vl.length = 8:=by rw [← hvl];rfl
     have Bg:sl.length = 8:=by rw [← hsl];rfl
     have V0:=Aside0.mk (show wr.heap[H]? = some (.cells (nums .u32 (mixL vl sl 0)).toArray 103 (0,0)) from by rw [← hvl,← hsl];exact BV.out)
     have S0:=Aside0.mk (show wr.heap[w.heap.size]? = some (.cells (nums .u32 sl).toArray 103 (0,0)) from by rw [← hsl];exact BS.out)
     have HVL:=Aside0.mk hvl
     have HSL:=Aside0.mk hsl
     have At:=Aside0.mk Bh
     have Aj:=Aside0.mk Bg
     clear hvl hsl Bh Bg BV BS BKK BK
     go_loopg [175] 8 (fun gg Al wr=>∃ kk:Nat,kk≤8∧8 - kk≤gg∧Al = .int .i64 kk∧Aside0 (Below w.heap.size w wr)
      ∧ Aside0 (wr.heap[w.heap.size]? = some (.cells (nums .u32 sl).toArray 103 (0,0)))
      ∧ Aside0 (wr.heap[H]? = some (.cells (nums .u32 (mixL vl sl kk)).toArray 103 (0,0)))
      ∧ Aside0 (wr.heap[w.heap.size + 1]? = some (.cells (nums .u32 (List.replicate 8 0)).toArray 103 (0,0))))
     case atStart=>exact ⟨0,Nat.zero_le _,by omega,rfl,BW,S0,V0,BR⟩
     case round =>
      clear V0 S0 BW BR
      obtain ⟨kk,hkk,hg,rfl,BW,BS,BV,BR⟩:=hrel
      by_cases hlt:kk < 8
      ·have Ab:(kk:Int) < 8:=by omega
       have vc:=mix_cell At.out Aj.out BV.out hlt
       have sc:=list_cell BS.out (show kk < sl.length by rw [Aj.out];exact hlt)
       generalize Bf:rd vl (kk:Int) = vv at vc
       generalize Ah:rd sl (kk:Int) = sv at sc
       have Bw:=Aside0.mk Bf
       have Bx:=Aside0.mk Ah
       clear Bf Ah
       go_wp2_with fail
       go_still_tail 8,(by kernel_rfl)
       change wpList _ _ _ _ _ wr.drew
       replace BW:=Aside0.mk (below_drew1 BW.out)
       replace BS:=Aside0.mk (blk_drew BS.out)
       replace BV:=Aside0.mk (blk_drew BV.out)
       replace BR:=Aside0.mk (blk_drew BR.out)
       generalize wr.drew = W at BW BS BV BR ⊢
       clear vc sc
       have vc:=mix_cell At.out Aj.out BV.out hlt
       have hf:W.frozen? ⟨H,kk,none⟩ = false:=blk_frozen BV.out kk
       go_wp2_with fail
       go_roundg (8 - (kk + 1))
       case measure=>omega
       case rel =>
        refine ⟨kk + 1,by omega,by omega,by go_num,⟨below_set BW.out (by omega)⟩,⟨blk_far BS.out (by show _≠H;omega) _⟩,⟨?_⟩,⟨blk_far BR.out (by show _≠H;omega) _⟩⟩
        refine mix_put At.out Aj.out BV.out hlt ?_
        rw [Bw.out,Bx.out]
        exact add32_mod _ _
      ·have Ab:¬ (kk:Int) < 8:=by omega
       obtain rfl:kk = 8:=by omega
       have hb:wr.heap[H]? = some (.cells #[.int .u32 (add32 a s0),.int .u32 (add32 b s1),.int .u32 (add32 c s2),.int .u32 (add32 d s3),.int .u32 (add32 e s4),.int .u32 (add32 f s5),.int .u32 (add32 g s6),.int .u32 (add32 h s7)] 103 (0,0)):=by
        have h0:=BV.out
        rw [← HVL.out,← HSL.out] at h0
        exact h0
       have d0:=(blk_cell hb 0).trans rfl
       have d1:=(blk_cell hb 1).trans rfl
       have d2:=(blk_cell hb 2).trans rfl
       have d3:=(blk_cell hb 3).trans rfl
       have d4:=(blk_cell hb 4).trans rfl
       have d5:=(blk_cell hb 5).trans rfl
       have d6:=(blk_cell hb 6).trans rfl
       have d7:=(blk_cell hb 7).trans rfl
       clear hb
       go_wp2_with (((with_reducible refine gate_store (t:=103) (p:=4) (v:=.tmp 187) rfl ?_);refine store_event rfl 103 (.tmp 4) (.tmp 187) rfl rfl (w.heap.size + 1) _ rfl rfl 103 _ BR.out (by kernel_rfl) (by rfl) (by simp [Value.oneCell']) ?_;intro w6 Ad Aa))
       have Cb:=pw_below_grown BW.out _ BW.out.size Aa (fun k hk=>by injection hk with hk;omega)
       refine bodyPost_ret (results_cell_row Tryz.results69 _ _ (w.heap.size + 1) 103 _ (0,0) _ rfl Ad Tryz.underlying103 rfl (by kernel_rfl)) rfl ⟨?_,Cb⟩
       unfold shaBlock
       rw [HS.out]
       rfl
def padZ (n:Nat):Nat:=(119 - n % 64) % 64
def lenB (n:Nat) (j:Nat):List Int:=([56,48,40,32,24,16,8,0].map fun i:Nat=>((8 * n / 2 ^ i % 256:Nat):Int)).take j
def tailTo (n j:Nat):List Int:=128 :: List.replicate (padZ n) 0 ++ lenB n j
theorem tail_test {n j k:Nat} (hn:n≤1048576) (hk:k = 1 + j) (hj:j < padZ n):(((n:Int) + (k:Int)) % 64 != 56) = true:=by
 unfold padZ at hj
 rw [bne_iff_ne]
 omega
theorem tail_done {n k:Nat} (hn:n≤1048576) (hk:k = 1 + padZ n):(((n:Int) + (k:Int)) % 64 != 56) = false:=by
 unfold padZ at hk
 rw [bne_eq_false_iff_eq]
 omega
theorem padZ_lt (n:Nat):padZ n < 64:=by unfold padZ;omega
theorem tail_next (n j i:Nat) (x:Int) (hn:n≤1048576) (hj:j < 8) (hi:i = 56 - 8 * j) (hx:((8 * n / 2 ^ i % 256:Nat):Int) = x):tailTo n j ++ [x] = tailTo n (j + 1):=by
 subst hx hi
 unfold tailTo
 rw [List.append_assoc]
 congr 1
 unfold lenB
 rcases (by omega:j = 0 ∨ j = 1 ∨ j = 2 ∨ j = 3 ∨ j = 4 ∨ j = 5 ∨ j = 6 ∨ j = 7) with rfl|rfl|rfl|rfl|rfl|rfl|rfl|rfl<;>rfl
theorem msg_size (data:ByteArray):∃ nb,(data ++ strOfNums (tailTo data.size 8)).size = 64 * nb:=by
 have h1:(strOfNums (tailTo data.size 8)).size = 9 + padZ data.size:=by
  show ((List.map _ (tailTo data.size 8)).toArray).size = _
  simp [tailTo,lenB]
  omega
 rw [ByteArray.size_append,h1]
 unfold padZ
 exact ⟨(data.size + (9 + (119 - data.size % 64) % 64)) / 64,by omega⟩
theorem msg_rest (M:ByteArray) (i:Nat) (h:64 * (i + 1)≤M.size):(M.extract (64 * i) M.size).extract 64 (M.extract (64 * i) M.size).size = M.extract (64 * (i + 1)) M.size:=by
 rw [ByteArray.extract_extract,ByteArray.size_extract]
 congr 1<;>omega
theorem msg_block (M:ByteArray) (i:Nat) (h:64 * (i + 1)≤M.size):(M.extract (64 * i) M.size).extract 0 64 = M.extract (64 * i) (64 * i + 64):=by
 rw [ByteArray.extract_extract]
 congr 1<;>omega
def bytes4 (x:Int):List Int:=[x / 16777216 % 256,x / 65536 % 256,x / 256 % 256,x % 256]
def outTo (s:H8) (k:Nat):List Int:=(s.list.take k).flatMap bytes4
theorem outTo_length (s:H8) (k:Nat) (hk:k≤8):(outTo s k).length = 4 * k:=by
 unfold outTo
 rcases (by omega:k = 0 ∨ k = 1 ∨ k = 2 ∨ k = 3 ∨ k = 4 ∨ k = 5 ∨ k = 6 ∨ k = 7 ∨ k = 8) with rfl|rfl|rfl|rfl|rfl|rfl|rfl|rfl|rfl<;>rfl
def shaFold (s:H8) (m:ByteArray):Nat→H8
 | 0=>s
 | n + 1=>shaBlock (shaFold s m n) (m.extract (64 * n) (64 * n + 64))
def shaSum (data:ByteArray):ByteArray :=
 let m:=data ++ strOfNums (tailTo data.size 8)
 strOfNums (outTo (shaFold shaInit m (m.size / 64)) 8)
set_option maxHeartbeats 4000000 in
set_option maxRecDepth 100000 in
theorem sum34 (data:ByteArray) (w:World) (hn:data.size≤1048576) :
  Calls Tryz.prog 30 #[.string data] w fun e w'=>e = .returned (.string (shaSum data))∧Below w.heap.size w w':=by
 go_enter Tryz.func30,Tryz.ntmps30
 have HB:=Aside0.mk (Below.refl w.heap.size w)
 go_wp2_with (first|((with_reducible refine gate_dst (N:=15) rfl ?_);go_loud (refine Kd.R_lit (Kd.int .u8) (w0:=w) w.heap.size 5 ?hg (N:=15) ?hd (xs:=[128]) (inner:=[.int .u8 (128)]) (ok:=fun _=>True) (okp:=fun _=>True) ?hr ?hp (fun _ hk=>hk) trivial ?hB ?hS (by simp) ?_);(case hd=>rfl);(case hg=>rfl);(case hr=>first|(go_simp;done)|(go_simp;rfl));(case hp=>exact (Reps.one rfl (Reps.none _ _)));(case hB=>exact (by repeat (first|(with_reducible first|exact HB.out|apply below_alloc|apply pw_below_drewN|apply below_drew1)|exact HB.out)));(case hS=>exact (below_size (by repeat (first|(with_reducible first|exact HB.out|apply below_alloc|apply pw_below_drewN|apply below_drew1)|exact HB.out))));intro v1 w1 ho hb Ac Ao;have BS:=Aside0.mk (blk_grown (blk_new w _) Ac (by simp));have HO:=Aside0.mk ho;have HBn:=Aside0.mk hb;clear HB;have HB:=HBn;clear HBn ho hb Ac Ao))
 have hz:=padZ_lt data.size
 go_loopg [5] (padZ data.size) (fun gg s5 wr=>∃ (j:Nat) (xs:List Int),j≤padZ data.size∧padZ data.size - j≤gg∧Aside0 (xs = 128 :: List.replicate j 0)
  ∧ Aside0 (Kd.R (Kd.int .u8) 5 wr w.heap.size (fun _=>True) s5 xs)∧Aside0 (wr.heap[w.heap.size]? = some (.cells #[.int .u32 1779033703,.int .u32 3144134277,.int .u32 1013904242,.int .u32 2773480762,.int .u32 1359893119,.int .u32 2600822924,.int .u32 528734635,.int .u32 1541459225] 103 (0,0)))∧Aside0 (Below w.heap.size w wr))
 case atStart=>exact ⟨0,[128],Nat.zero_le _,by omega,⟨rfl⟩,HO,BS,HB⟩
 case round =>
  clear HO BS HB
  obtain ⟨j,xs,hj,hg,HX,HO,BS,HB⟩:=hrel
  obtain ⟨A,c,hv⟩:=Kd.R_slice HO.out
  subst hv
  have hl:xs.length = 1 + j:=by rw [HX.out];simp;omega
  have HL:=Aside0.mk hl
  have Ae:xs.length≤200:=by omega
  clear hl
  by_cases hlt:j < padZ data.size
  ·have Af:=tail_test hn HL.out hlt
   go_wp2_with (first|((with_reducible refine gate_builtin (b:=.append) (xs:=#[.tmp 23,.tmp 24]) rfl ?_);at_builtin;go_loud (refine Kd.R_append (Kd.int .u8) (w0:=w) w.heap.size rfl (.tmp 23) (.tmp 24) 57 5 (.int .u8 0) 1 rfl Tryz.underlying57 info5 rfl (by decide) (by omega) (.slice A xs.length c) xs (0) [.int .u8 (0)] (fun _=>True) (fun _=>False) rfl rfl ?aP (fun _ hk=>hk.elim) ?aF ?aO ?aB ?aS ?aL ?_);(case aP=>exact rfl);(case aB=>exact (by repeat (first|(with_reducible first|exact HB.out|apply below_alloc|apply pw_below_drewN|apply below_drew1)|exact HB.out)));(case aF=>exact (fun _ _=>trivial));(case aO=>exact HO.out);(case aS=>exact (below_size (by repeat (first|(with_reducible first|exact HB.out|apply below_alloc|apply pw_below_drewN|apply below_drew1)|exact HB.out))));(case aL=>have:=Ae;omega);intro v2 w2 ho hb Ac hat;have Ad:=Aside0.mk (blk_grown BS.out Ac (Kd.R_ne HO.out BS.out (by decide)));have Aa:=Aside0.mk ho;have Ab:=Aside0.mk hb;clear HB HO BS;have HB:=Ab;have HO:=Aa;have BS:=Ad;clear Aa Ab Ad ho hb Ac hat))
   go_roundg (padZ data.size - (j + 1))
   case measure=>omega
   case rel =>
    exact ⟨j + 1,xs ++ [0],by omega,by omega,⟨by rw [HX.out,List.cons_append,List.replicate_succ']⟩,HO,BS,HB⟩
  ·obtain rfl:j = padZ data.size:=by omega
   have Af:=tail_done hn HL.out
   go_wp2_with fail
   have Aj:=Aside0.mk (show xs = tailTo data.size 0 from by rw [HX.out];simp [tailTo,lenB])
   clear HX Af Ae HL
   go_loopg [5,6] 9 (fun gg s5 s6 wr=>∃ (j:Nat) (k:Int) (xs:List Int),j≤8∧9≤gg + j∧s6 = .int .i64 k∧Aside0 (k = 56 - 8 * (j:Int))∧Aside0 (xs = tailTo data.size j)
    ∧ Aside0 (Kd.R (Kd.int .u8) 5 wr w.heap.size (fun _=>True) s5 xs)∧Aside0 (wr.heap[w.heap.size]? = some (.cells #[.int .u32 1779033703,.int .u32 3144134277,.int .u32 1013904242,.int .u32 2773480762,.int .u32 1359893119,.int .u32 2600822924,.int .u32 528734635,.int .u32 1541459225] 103 (0,0)))∧Aside0 (Below w.heap.size w wr))
   case atStart=>exact ⟨0,56,xs,Nat.zero_le _,by omega,rfl,⟨rfl⟩,Aj,HO,BS,HB⟩
   case round =>
    clear HO BS HB Aj
    obtain ⟨j,k,xs,hj,hg,rfl,HK,HX,HO,BS,HB⟩:=hrel
    obtain ⟨A,c,hv⟩:=Kd.R_slice HO.out
    subst hv
    have Ae:xs.length≤200:=by rw [HX.out];have:=padZ_lt data.size;simp [tailTo,lenB];omega
    rcases (by omega:j = 0 ∨ j = 1 ∨ j = 2 ∨ j = 3 ∨ j = 4 ∨ j = 5 ∨ j = 6 ∨ j = 7 ∨ j = 8) with rfl|rfl|rfl|rfl|rfl|rfl|rfl|rfl|rfl
    ·obtain rfl:k = 56:=HK.out
     go_wp2_with (first|((with_reducible refine gate_builtin (b:=.append) (xs:=#[.tmp 30,.tmp 35]) rfl ?_);at_builtin;go_loud (refine Kd.R_append (Kd.int .u8) (w0:=w) w.heap.size rfl (.tmp 30) (.tmp 35) 57 5 (.int .u8 0) 1 rfl Tryz.underlying57 info5 rfl (by decide) (by omega) (.slice A xs.length c) xs ((data.size:Int) * 8 / 72057594037927936) [.int .u8 ((data.size:Int) * 8 / 72057594037927936)] (fun _=>True) (fun _=>False) rfl rfl ?aP (fun _ hk=>hk.elim) ?aF ?aO ?aB ?aS ?aL ?_);(case aP=>exact rfl);(case aB=>exact (by repeat (first|(with_reducible first|exact HB.out|apply below_alloc|apply pw_below_drewN|apply below_drew1)|exact HB.out)));(case aF=>exact (fun _ _=>trivial));(case aO=>exact HO.out);(case aS=>exact (below_size (by repeat (first|(with_reducible first|exact HB.out|apply below_alloc|apply pw_below_drewN|apply below_drew1)|exact HB.out))));(case aL=>have:=Ae;omega);intro v2 w2 ho hb Ac hat;have Ad:=Aside0.mk (blk_grown BS.out Ac (Kd.R_ne HO.out BS.out (by decide)));have Aa:=Aside0.mk ho;have Ab:=Aside0.mk hb;clear HB HO BS;have HB:=Ab;have HO:=Aa;have BS:=Ad;clear Aa Ab Ad ho hb Ac hat))
     go_roundg (9 - 1)
     case measure=>omega
     case rel =>
      refine ⟨1,48,_,by omega,by omega,rfl,⟨rfl⟩,⟨?_⟩,HO,BS,HB⟩
      rw [HX.out]
      exact tail_next data.size 0 56 _ hn (by decide) (by decide) (by omega)
    ·obtain rfl:k = 48:=HK.out
     go_wp2_with (first|((with_reducible refine gate_builtin (b:=.append) (xs:=#[.tmp 30,.tmp 35]) rfl ?_);at_builtin;go_loud (refine Kd.R_append (Kd.int .u8) (w0:=w) w.heap.size rfl (.tmp 30) (.tmp 35) 57 5 (.int .u8 0) 1 rfl Tryz.underlying57 info5 rfl (by decide) (by omega) (.slice A xs.length c) xs ((data.size:Int) * 8 / 281474976710656) [.int .u8 ((data.size:Int) * 8 / 281474976710656)] (fun _=>True) (fun _=>False) rfl rfl ?aP (fun _ hk=>hk.elim) ?aF ?aO ?aB ?aS ?aL ?_);(case aP=>exact rfl);(case aB=>exact (by repeat (first|(with_reducible first|exact HB.out|apply below_alloc|apply pw_below_drewN|apply below_drew1)|exact HB.out)));(case aF=>exact (fun _ _=>trivial));(case aO=>exact HO.out);(case aS=>exact (below_size (by repeat (first|(with_reducible first|exact HB.out|apply below_alloc|apply pw_below_drewN|apply below_drew1)|exact HB.out))));(case aL=>have:=Ae;omega);intro v2 w2 ho hb Ac hat;have Ad:=Aside0.mk (blk_grown BS.out Ac (Kd.R_ne HO.out BS.out (by decide)));have Aa:=Aside0.mk ho;have Ab:=Aside0.mk hb;clear HB HO BS;have HB:=Ab;have HO:=Aa;have BS:=Ad;clear Aa Ab Ad ho hb Ac hat))
     go_roundg (9 - 2)
     case measure=>omega
     case rel =>
      refine ⟨2,40,_,by omega,by omega,rfl,⟨rfl⟩,⟨?_⟩,HO,BS,HB⟩
      rw [HX.out]
      exact tail_next data.size 1 48 _ hn (by decide) (by decide) (by omega)
    ·obtain rfl:k = 40:=HK.out
     go_wp2_with (first|((with_reducible refine gate_builtin (b:=.append) (xs:=#[.tmp 30,.tmp 35]) rfl ?_);at_builtin;go_loud (refine Kd.R_append (Kd.int .u8) (w0:=w) w.heap.size rfl (.tmp 30) (.tmp 35) 57 5 (.int .u8 0) 1 rfl Tryz.underlying57 info5 rfl (by decide) (by omega) (.slice A xs.length c) xs ((data.size:Int) * 8 / 1099511627776) [.int .u8 ((data.size:Int) * 8 / 1099511627776)] (fun _=>True) (fun _=>False) rfl rfl ?aP (fun _ hk=>hk.elim) ?aF ?aO ?aB ?aS ?aL ?_);(case aP=>exact rfl);(case aB=>exact (by repeat (first|(with_reducible first|exact HB.out|apply below_alloc|apply pw_below_drewN|apply below_drew1)|exact HB.out)));(case aF=>exact (fun _ _=>trivial));(case aO=>exact HO.out);(case aS=>exact (below_size (by repeat (first|(with_reducible first|exact HB.out|apply below_alloc|apply pw_below_drewN|apply below_drew1)|exact HB.out))));(case aL=>have:=Ae;omega);intro v2 w2 ho hb Ac hat;have Ad:=Aside0.mk (blk_grown BS.out Ac (Kd.R_ne HO.out BS.out (by decide)));have Aa:=Aside0.mk ho;have Ab:=Aside0.mk hb;clear HB HO BS;have HB:=Ab;have HO:=Aa;have BS:=Ad;clear Aa Ab Ad ho hb Ac hat))
     go_roundg (9 - 3)
     case measure=>omega
     case rel =>
      refine ⟨3,32,_,by omega,by omega,rfl,⟨rfl⟩,⟨?_⟩,HO,BS,HB⟩
      rw [HX.out]
      exact tail_next data.size 2 40 _ hn (by decide) (by decide) (by omega)
    ·obtain rfl:k = 32:=HK.out
     go_wp2_with (first|((with_reducible refine gate_builtin (b:=.append) (xs:=#[.tmp 30,.tmp 35]) rfl ?_);at_builtin;go_loud (refine Kd.R_append (Kd.int .u8) (w0:=w) w.heap.size rfl (.tmp 30) (.tmp 35) 57 5 (.int .u8 0) 1 rfl Tryz.underlying57 info5 rfl (by decide) (by omega) (.slice A xs.length c) xs ((data.size:Int) * 8 / 4294967296) [.int .u8 ((data.size:Int) * 8 / 4294967296)] (fun _=>True) (fun _=>False) rfl rfl ?aP (fun _ hk=>hk.elim) ?aF ?aO ?aB ?aS ?aL ?_);(case aP=>exact rfl);(case aB=>exact (by repeat (first|(with_reducible first|exact HB.out|apply below_alloc|apply pw_below_drewN|apply below_drew1)|exact HB.out)));(case aF=>exact (fun _ _=>trivial));(case aO=>exact HO.out);(case aS=>exact (below_size (by repeat (first|(with_reducible first|exact HB.out|apply below_alloc|apply pw_below_drewN|apply below_drew1)|exact HB.out))));(case aL=>have:=Ae;omega);intro v2 w2 ho hb Ac hat;have Ad:=Aside0.mk (blk_grown BS.out Ac (Kd.R_ne HO.out BS.out (by decide)));have Aa:=Aside0.mk ho;have Ab:=Aside0.mk hb;clear HB HO BS;have HB:=Ab;have HO:=Aa;have BS:=Ad;clear Aa Ab Ad ho hb Ac hat))
     go_roundg (9 - 4)
     case measure=>omega
     case rel =>
      refine ⟨4,24,_,by omega,by omega,rfl,⟨rfl⟩,⟨?_⟩,HO,BS,HB⟩
      rw [HX.out]
      exact tail_next data.size 3 32 _ hn (by decide) (by decide) (by omega)
    ·obtain rfl:k = 24:=HK.out
     go_wp2_with (first|((with_reducible refine gate_builtin (b:=.append) (xs:=#[.tmp 30,.tmp 35]) rfl ?_);at_builtin;go_loud (refine Kd.R_append (Kd.int .u8) (w0:=w) w.heap.size rfl (.tmp 30) (.tmp 35) 57 5 (.int .u8 0) 1 rfl Tryz.underlying57 info5 rfl (by decide) (by omega) (.slice A xs.length c) xs ((data.size:Int) * 8 / 16777216) [.int .u8 ((data.size:Int) * 8 / 16777216)] (fun _=>True) (fun _=>False) rfl rfl ?aP (fun _ hk=>hk.elim) ?aF ?aO ?aB ?aS ?aL ?_);(case aP=>exact rfl);(case aB=>exact (by repeat (first|(with_reducible first|exact HB.out|apply below_alloc|apply pw_below_drewN|apply below_drew1)|exact HB.out)));(case aF=>exact (fun _ _=>trivial));(case aO=>exact HO.out);(case aS=>exact (below_size (by repeat (first|(with_reducible first|exact HB.out|apply below_alloc|apply pw_below_drewN|apply below_drew1)|exact HB.out))));(case aL=>have:=Ae;omega);intro v2 w2 ho hb Ac hat;have Ad:=Aside0.mk (blk_grown BS.out Ac (Kd.R_ne HO.out BS.out (by decide)));have Aa:=Aside0.mk ho;have Ab:=Aside0.mk hb;clear HB HO BS;have HB:=Ab;have HO:=Aa;have BS:=Ad;clear Aa Ab Ad ho hb Ac hat))
     go_roundg (9 - 5)
     case measure=>omega
     case rel =>
      refine ⟨5,16,_,by omega,by omega,rfl,⟨rfl⟩,⟨?_⟩,HO,BS,HB⟩
      rw [HX.out]
      exact tail_next data.size 4 24 _ hn (by decide) (by decide) (by omega)
    ·obtain rfl:k = 16:=HK.out
     go_wp2_with (first|((with_reducible refine gate_builtin (b:=.append) (xs:=#[.tmp 30,.tmp 35]) rfl ?_);at_builtin;go_loud (refine Kd.R_append (Kd.int .u8) (w0:=w) w.heap.size rfl (.tmp 30) (.tmp 35) 57 5 (.int .u8 0) 1 rfl Tryz.underlying57 info5 rfl (by decide) (by omega) (.slice A xs.length c) xs ((data.size:Int) * 8 / 65536) [.int .u8 ((data.size:Int) * 8 / 65536)] (fun _=>True) (fun _=>False) rfl rfl ?aP (fun _ hk=>hk.elim) ?aF ?aO ?aB ?aS ?aL ?_);(case aP=>exact rfl);(case aB=>exact (by repeat (first|(with_reducible first|exact HB.out|apply below_alloc|apply pw_below_drewN|apply below_drew1)|exact HB.out)));(case aF=>exact (fun _ _=>trivial));(case aO=>exact HO.out);(case aS=>exact (below_size (by repeat (first|(with_reducible first|exact HB.out|apply below_alloc|apply pw_below_drewN|apply below_drew1)|exact HB.out))));(case aL=>have:=Ae;omega);intro v2 w2 ho hb Ac hat;have Ad:=Aside0.mk (blk_grown BS.out Ac (Kd.R_ne HO.out BS.out (by decide)));have Aa:=Aside0.mk ho;have Ab:=Aside0.mk hb;clear HB HO BS;have HB:=Ab;have HO:=Aa;have BS:=Ad;clear Aa Ab Ad ho hb Ac hat))
     go_roundg (9 - 6)
     case measure=>omega
     case rel =>
      refine ⟨6,8,_,by omega,by omega,rfl,⟨rfl⟩,⟨?_⟩,HO,BS,HB⟩
      rw [HX.out]
      exact tail_next data.size 5 16 _ hn (by decide) (by decide) (by omega)
    ·obtain rfl:k = 8:=HK.out
     go_wp2_with (first|((with_reducible refine gate_builtin (b:=.append) (xs:=#[.tmp 30,.tmp 35]) rfl ?_);at_builtin;go_loud (refine Kd.R_append (Kd.int .u8) (w0:=w) w.heap.size rfl (.tmp 30) (.tmp 35) 57 5 (.int .u8 0) 1 rfl Tryz.underlying57 info5 rfl (by decide) (by omega) (.slice A xs.length c) xs ((data.size:Int) * 8 / 256 % 256) [.int .u8 ((data.size:Int) * 8 / 256 % 256)] (fun _=>True) (fun _=>False) rfl rfl ?aP (fun _ hk=>hk.elim) ?aF ?aO ?aB ?aS ?aL ?_);(case aP=>exact rfl);(case aB=>exact (by repeat (first|(with_reducible first|exact HB.out|apply below_alloc|apply pw_below_drewN|apply below_drew1)|exact HB.out)));(case aF=>exact (fun _ _=>trivial));(case aO=>exact HO.out);(case aS=>exact (below_size (by repeat (first|(with_reducible first|exact HB.out|apply below_alloc|apply pw_below_drewN|apply below_drew1)|exact HB.out))));(case aL=>have:=Ae;omega);intro v2 w2 ho hb Ac hat;have Ad:=Aside0.mk (blk_grown BS.out Ac (Kd.R_ne HO.out BS.out (by decide)));have Aa:=Aside0.mk ho;have Ab:=Aside0.mk hb;clear HB HO BS;have HB:=Ab;have HO:=Aa;have BS:=Ad;clear Aa Ab Ad ho hb Ac hat))
     go_roundg (9 - 7)
     case measure=>omega
     case rel =>
      refine ⟨7,0,_,by omega,by omega,rfl,⟨rfl⟩,⟨?_⟩,HO,BS,HB⟩
      rw [HX.out]
      exact tail_next data.size 6 8 _ hn (by decide) (by decide) (by omega)
    ·obtain rfl:k = 0:=HK.out
     go_wp2_with (first|((with_reducible refine gate_builtin (b:=.append) (xs:=#[.tmp 30,.tmp 35]) rfl ?_);at_builtin;go_loud (refine Kd.R_append (Kd.int .u8) (w0:=w) w.heap.size rfl (.tmp 30) (.tmp 35) 57 5 (.int .u8 0) 1 rfl Tryz.underlying57 info5 rfl (by decide) (by omega) (.slice A xs.length c) xs ((data.size:Int) * 8 % 256) [.int .u8 ((data.size:Int) * 8 % 256)] (fun _=>True) (fun _=>False) rfl rfl ?aP (fun _ hk=>hk.elim) ?aF ?aO ?aB ?aS ?aL ?_);(case aP=>exact rfl);(case aB=>exact (by repeat (first|(with_reducible first|exact HB.out|apply below_alloc|apply pw_below_drewN|apply below_drew1)|exact HB.out)));(case aF=>exact (fun _ _=>trivial));(case aO=>exact HO.out);(case aS=>exact (below_size (by repeat (first|(with_reducible first|exact HB.out|apply below_alloc|apply pw_below_drewN|apply below_drew1)|exact HB.out))));(case aL=>have:=Ae;omega);intro v2 w2 ho hb Ac hat;have Ad:=Aside0.mk (blk_grown BS.out Ac (Kd.R_ne HO.out BS.out (by decide)));have Aa:=Aside0.mk ho;have Ab:=Aside0.mk hb;clear HB HO BS;have HB:=Ab;have HO:=Aa;have BS:=Ad;clear Aa Ab Ad ho hb Ac hat))
     go_roundg (9 - 8)
     case measure=>omega
     case rel =>
      refine ⟨8,-8,_,by omega,by omega,rfl,⟨rfl⟩,⟨?_⟩,HO,BS,HB⟩
      rw [HX.out]
      exact tail_next data.size 7 0 _ hn (by decide) (by decide) (by omega)
    ·obtain rfl:k = -8:=HK.out
     have hcv:=Kd.C_string (P:=Tryz.prog) (A:=A) (c:=c) Tryz.underlying57 Tryz.underlying5 Tryz.underlying9 (Kd.R_reads' HO.out).2.2
     have Av:=HX
     generalize hts:strOfNums xs = ts at hcv
     have HTS:=Aside0.mk hts
     clear hts
     have htz:ts.size≤200:=by rw [← HTS.out];show ((xs.map _).toArray).size≤200;simp;exact Ae
     go_wp2_with fail
     obtain ⟨nb,hnb⟩:∃ nb,(data ++ ts).size = 64 * nb:=by
      rw [← HTS.out,HX.out]
      exact msg_size data
     generalize hM:data ++ ts = M at hnb
     have HM:=Aside0.mk hM
     have An:nb≤20000:=by
      have h1:(data ++ ts).size = data.size + ts.size:=ByteArray.size_append
      rw [hM] at h1
      omega
     have HNB:=Aside0.mk hnb
     clear hM hnb HO hcv Ae htz
     have Ah:Aside0 (wr.heap[w.heap.size]? = some (.cells (shaFold shaInit M 0).cells 103 (0,0))):=BS
     go_loopg [0] nb (fun gg s0 wr=>∃ (i:Nat) (d:ByteArray),i≤nb∧nb - i≤gg∧s0 = .string d∧Aside0 (d = M.extract (64 * i) M.size)
      ∧ Aside0 (wr.heap[w.heap.size]? = some (.cells (shaFold shaInit M i).cells 103 (0,0)))∧Aside0 (Below w.heap.size w wr))
     case atStart=>exact ⟨0,M,Nat.zero_le _,by omega,rfl,⟨by simp⟩,Ah,HB⟩
     case round =>
      clear BS Ah HB
      obtain ⟨i,d,hi,hg,rfl,HD,BS,HB⟩:=hrel
      have hds:d.size = 64 * (nb - i):=by rw [HD.out,ByteArray.size_extract,HNB.out];omega
      by_cases hlt:i < nb
      ·have Ag:64≤d.size:=by omega
       have Aq:d.size≤1280000:=by omega
       have Ap:(64:Int)≤(d.size:Int):=by omega
       have HDS:=Aside0.mk hds
       clear hds
       have hne:¬ d.toList = []:=by
        intro h
        have h2:d.toList.length = 0:=by rw [h];rfl
        rw [ByteArray.toList_eq] at h2
        have h3:d.data.toList.length = d.size:=rfl
        omega
       have Am:(!d.toList.isEmpty) = true:=by simp [hne]
       have hst:=BS.out
       generalize hs:shaFold shaInit M i = st at hst
       have HS:=Aside0.mk hs
       clear hs BS
       obtain ⟨a,b,c',d',e,f,g,h⟩:=st
       have c0:wr.cell? ⟨w.heap.size,0,none⟩ = some (.int .u32 a):=blk_cell hst 0
       have c1:wr.cell? ⟨w.heap.size,1,none⟩ = some (.int .u32 b):=blk_cell hst 1
       have c2:wr.cell? ⟨w.heap.size,2,none⟩ = some (.int .u32 c'):=blk_cell hst 2
       have c3:wr.cell? ⟨w.heap.size,3,none⟩ = some (.int .u32 d'):=blk_cell hst 3
       have c4:wr.cell? ⟨w.heap.size,4,none⟩ = some (.int .u32 e):=blk_cell hst 4
       have c5:wr.cell? ⟨w.heap.size,5,none⟩ = some (.int .u32 f):=blk_cell hst 5
       have c6:wr.cell? ⟨w.heap.size,6,none⟩ = some (.int .u32 g):=blk_cell hst 6
       have c7:wr.cell? ⟨w.heap.size,7,none⟩ = some (.int .u32 h):=blk_cell hst 7
       have BS:=Aside0.mk hst
       clear hst
       go_wp2_with fail
       go_still_tail 3,(by kernel_rfl)
       change wpList _ _ _ _ _ wr.drew
       replace HB:=Aside0.mk (below_drew1 HB.out)
       replace BS:=Aside0.mk (blk_drew BS.out)
       generalize wr.drew = W at HB BS ⊢
       clear c0 c1 c2 c3 c4 c5 c6 c7
       have hex:(d.extract 0 64).size = 64:=by rw [ByteArray.size_extract];omega
       go_wp2_with fail
       refine (block56 ⟨a,b,c',d',e,f,g,h⟩ (d.extract 0 64) W hex).mono ?_
       rintro e1 w1 ⟨rfl,Ai⟩
       have Ak:=Aside0.mk (below_step HB.out Ai)
       have Ah:=Aside0.mk (blk_below BS.out Ai)
       clear Ai HB BS hex
       generalize hns:shaBlock ⟨a,b,c',d',e,f,g,h⟩ (d.extract 0 64) = ns
       have HNS:=Aside0.mk hns
       clear hns
       obtain ⟨n0,n1,n2,n3,n4,n5,n6,n7⟩:=ns
       go_wp2_with (((with_reducible refine gate_store (t:=103) (p:=3) (v:=.tmp 48) rfl ?_);refine store_event rfl 103 (.tmp 3) (.tmp 48) rfl rfl w.heap.size #[.int .u32 n0,.int .u32 n1,.int .u32 n2,.int .u32 n3,.int .u32 n4,.int .u32 n5,.int .u32 n6,.int .u32 n7] rfl rfl 103 _ Ah.out (by kernel_rfl) (by rfl) (by simp [Value.oneCell']) ?_;intro w6 As Au))
       go_roundg (nb - (i + 1))
       case measure=>omega
       case rel =>
        refine ⟨i + 1,_,by omega,by omega,rfl,⟨?_⟩,⟨?_⟩,⟨pw_below_grown Ak.out _ Ak.out.size Au (fun k hk=>by injection hk with hk;omega)⟩⟩
        ·rw [HD.out]
         exact msg_rest M i (by have:=HNB.out;omega)
        ·rw [As]
         show some (Obj.cells (H8.cells ⟨n0,n1,n2,n3,n4,n5,n6,n7⟩) 103) = _
         unfold shaFold
         rw [HS.out,← HNS.out,HD.out,msg_block M i (by have:=HNB.out;omega)]
      ·obtain rfl:i = nb:=by omega
       have Ag:d.size = 0:=by omega
       have hde:d = ⟨#[]⟩:=by
        rcases d with ⟨⟨l⟩⟩
        have:l.length = 0:=Ag
        cases l with
        | nil=>rfl
        | cons x l=>simp at this
       subst hde
       clear hds Ag HD
       have hst:=BS.out
       generalize hs:shaFold shaInit M i = st at hst
       have HS:=Aside0.mk hs
       clear hs BS
       obtain ⟨a0,a1,a2,a3,a4,a5,a6,a7⟩:=st
       have c0:wr.cell? ⟨w.heap.size,0,none⟩ = some (.int .u32 a0):=blk_cell hst 0
       have c1:wr.cell? ⟨w.heap.size,1,none⟩ = some (.int .u32 a1):=blk_cell hst 1
       have c2:wr.cell? ⟨w.heap.size,2,none⟩ = some (.int .u32 a2):=blk_cell hst 2
       have c3:wr.cell? ⟨w.heap.size,3,none⟩ = some (.int .u32 a3):=blk_cell hst 3
       have c4:wr.cell? ⟨w.heap.size,4,none⟩ = some (.int .u32 a4):=blk_cell hst 4
       have c5:wr.cell? ⟨w.heap.size,5,none⟩ = some (.int .u32 a5):=blk_cell hst 5
       have c6:wr.cell? ⟨w.heap.size,6,none⟩ = some (.int .u32 a6):=blk_cell hst 6
       have c7:wr.cell? ⟨w.heap.size,7,none⟩ = some (.int .u32 a7):=blk_cell hst 7
       clear hst
       go_wp2_with fail
       clear c0 c1 c2 c3 c4 c5 c6 c7
       have HO:=Aside0.mk (Kd.R_nil (Kd.int .u8) 5 wr w.heap.size (fun _=>True))
       go_loopg [7,50] 9 (fun gg s7 Al wr=>∃ (k:Nat) (xs:List Int),k≤8∧9≤gg + k∧Al = .int .i64 k∧Aside0 (xs = outTo ⟨a0,a1,a2,a3,a4,a5,a6,a7⟩ k)
        ∧ Aside0 (Kd.R (Kd.int .u8) 5 wr w.heap.size (fun _=>True) s7 xs)∧Aside0 (Below w.heap.size w wr))
       case atStart=>exact ⟨0,[],by omega,by omega,rfl,⟨rfl⟩,HO,HB⟩
       case round =>
        clear HO HB
        obtain ⟨k,xs,hk,hg,rfl,HX,HO,HB⟩:=hrel
        obtain ⟨A,c,hv⟩:=Kd.R_slice HO.out
        subst hv
        have Ae:xs.length≤40:=by rw [HX.out,outTo_length _ _ hk];omega
        rcases (by omega:k = 0 ∨ k = 1 ∨ k = 2 ∨ k = 3 ∨ k = 4 ∨ k = 5 ∨ k = 6 ∨ k = 7 ∨ k = 8) with rfl|rfl|rfl|rfl|rfl|rfl|rfl|rfl|rfl
        ·have ix:∀ W,(Instr.index 103 (.agg #[.int .u32 a0,.int .u32 a1,.int .u32 a2,.int .u32 a3,.int .u32 a4,.int .u32 a5,.int .u32 a6,.int .u32 a7]) (.int .i64 0)).run Tryz.prog W = .ok (.int .u32 a0) W:=fun _=>by kernel_rfl
         go_wp2_with (first|((with_reducible refine gate_builtin (b:=.append) (xs:=#[.tmp 53,.tmp 65]) rfl ?_);at_builtin;refine Kd.R_append_row (Value.int .u8) (0:Int) (h1:=fun _=>rfl) (w0:=w) w.heap.size rfl (.tmp 53) (.tmp 65) 57 5 (.int .u8 0) 1 rfl Tryz.underlying57 info5 rfl (by decide) (.slice A xs.length c) xs ([a0 / 16777216 % 256,a0 / 65536 % 256,a0 / 256 % 256,a0 % 256]:List Int) (some ⟨wr.heap.size,0,none⟩) 4 4 (fun _=>True) rfl rfl (fun _ _=>trivial) ?aO ?aR ?aB ?aS ?aL ?_;(case aO=>exact Kd.R_alloc HO.out _);(case aR=>exact C_of_blk (blk_new wr _) rfl (by omega));(case aB=>exact (by repeat (first|(with_reducible first|exact HB.out|apply below_alloc|apply pw_below_drewN|apply below_drew1)|exact HB.out)));(case aS=>exact (below_size (by repeat (first|(with_reducible first|exact HB.out|apply below_alloc|apply pw_below_drewN|apply below_drew1)|exact HB.out))));(case aL=>have:=Ae;omega);intro v2 w2 ho hb Ac hat;have Aa:=Aside0.mk ho;have Ab:=Aside0.mk hb;clear HB HO;have HB:=Ab;have HO:=Aa;clear Aa Ab ho hb Ac hat))
         go_roundg (9 - 1)
         case measure=>omega
         case rel=>exact ⟨1,_,by omega,by omega,rfl,⟨by rw [HX.out];rfl⟩,HO,HB⟩
        ·have ix:∀ W,(Instr.index 103 (.agg #[.int .u32 a0,.int .u32 a1,.int .u32 a2,.int .u32 a3,.int .u32 a4,.int .u32 a5,.int .u32 a6,.int .u32 a7]) (.int .i64 1)).run Tryz.prog W = .ok (.int .u32 a1) W:=fun _=>by kernel_rfl
         go_wp2_with (first|((with_reducible refine gate_builtin (b:=.append) (xs:=#[.tmp 53,.tmp 65]) rfl ?_);at_builtin;refine Kd.R_append_row (Value.int .u8) (0:Int) (h1:=fun _=>rfl) (w0:=w) w.heap.size rfl (.tmp 53) (.tmp 65) 57 5 (.int .u8 0) 1 rfl Tryz.underlying57 info5 rfl (by decide) (.slice A xs.length c) xs ([a1 / 16777216 % 256,a1 / 65536 % 256,a1 / 256 % 256,a1 % 256]:List Int) (some ⟨wr.heap.size,0,none⟩) 4 4 (fun _=>True) rfl rfl (fun _ _=>trivial) ?aO ?aR ?aB ?aS ?aL ?_;(case aO=>exact Kd.R_alloc HO.out _);(case aR=>exact C_of_blk (blk_new wr _) rfl (by omega));(case aB=>exact (by repeat (first|(with_reducible first|exact HB.out|apply below_alloc|apply pw_below_drewN|apply below_drew1)|exact HB.out)));(case aS=>exact (below_size (by repeat (first|(with_reducible first|exact HB.out|apply below_alloc|apply pw_below_drewN|apply below_drew1)|exact HB.out))));(case aL=>have:=Ae;omega);intro v2 w2 ho hb Ac hat;have Aa:=Aside0.mk ho;have Ab:=Aside0.mk hb;clear HB HO;have HB:=Ab;have HO:=Aa;clear Aa Ab ho hb Ac hat))
         go_roundg (9 - 2)
         case measure=>omega
         case rel=>exact ⟨2,_,by omega,by omega,rfl,⟨by rw [HX.out];rfl⟩,HO,HB⟩
        ·have ix:∀ W,(Instr.index 103 (.agg #[.int .u32 a0,.int .u32 a1,.int .u32 a2,.int .u32 a3,.int .u32 a4,.int .u32 a5,.int .u32 a6,.int .u32 a7]) (.int .i64 2)).run Tryz.prog W = .ok (.int .u32 a2) W:=fun _=>by kernel_rfl
         go_wp2_with (first|((with_reducible refine gate_builtin (b:=.append) (xs:=#[.tmp 53,.tmp 65]) rfl ?_);at_builtin;refine Kd.R_append_row (Value.int .u8) (0:Int) (h1:=fun _=>rfl) (w0:=w) w.heap.size rfl (.tmp 53) (.tmp 65) 57 5 (.int .u8 0) 1 rfl Tryz.underlying57 info5 rfl (by decide) (.slice A xs.length c) xs ([a2 / 16777216 % 256,a2 / 65536 % 256,a2 / 256 % 256,a2 % 256]:List Int) (some ⟨wr.heap.size,0,none⟩) 4 4 (fun _=>True) rfl rfl (fun _ _=>trivial) ?aO ?aR ?aB ?aS ?aL ?_;(case aO=>exact Kd.R_alloc HO.out _);(case aR=>exact C_of_blk (blk_new wr _) rfl (by omega));(case aB=>exact (by repeat (first|(with_reducible first|exact HB.out|apply below_alloc|apply pw_below_drewN|apply below_drew1)|exact HB.out)));(case aS=>exact (below_size (by repeat (first|(with_reducible first|exact HB.out|apply below_alloc|apply pw_below_drewN|apply below_drew1)|exact HB.out))));(case aL=>have:=Ae;omega);intro v2 w2 ho hb Ac hat;have Aa:=Aside0.mk ho;have Ab:=Aside0.mk hb;clear HB HO;have HB:=Ab;have HO:=Aa;clear Aa Ab ho hb Ac hat))
         go_roundg (9 - 3)
         case measure=>omega
         case rel=>exact ⟨3,_,by omega,by omega,rfl,⟨by rw [HX.out];rfl⟩,HO,HB⟩
        ·have ix:∀ W,(Instr.index 103 (.agg #[.int .u32 a0,.int .u32 a1,.int .u32 a2,.int .u32 a3,.int .u32 a4,.int .u32 a5,.int .u32 a6,.int .u32 a7]) (.int .i64 3)).run Tryz.prog W = .ok (.int .u32 a3) W:=fun _=>by kernel_rfl
         go_wp2_with (first|((with_reducible refine gate_builtin (b:=.append) (xs:=#[.tmp 53,.tmp 65]) rfl ?_);at_builtin;refine Kd.R_append_row (Value.int .u8) (0:Int) (h1:=fun _=>rfl) (w0:=w) w.heap.size rfl (.tmp 53) (.tmp 65) 57 5 (.int .u8 0) 1 rfl Tryz.underlying57 info5 rfl (by decide) (.slice A xs.length c) xs ([a3 / 16777216 % 256,a3 / 65536 % 256,a3 / 256 % 256,a3 % 256]:List Int) (some ⟨wr.heap.size,0,none⟩) 4 4 (fun _=>True) rfl rfl (fun _ _=>trivial) ?aO ?aR ?aB ?aS ?aL ?_;(case aO=>exact Kd.R_alloc HO.out _);(case aR=>exact C_of_blk (blk_new wr _) rfl (by omega));(case aB=>exact (by repeat (first|(with_reducible first|exact HB.out|apply below_alloc|apply pw_below_drewN|apply below_drew1)|exact HB.out)));(case aS=>exact (below_size (by repeat (first|(with_reducible first|exact HB.out|apply below_alloc|apply pw_below_drewN|apply below_drew1)|exact HB.out))));(case aL=>have:=Ae;omega);intro v2 w2 ho hb Ac hat;have Aa:=Aside0.mk ho;have Ab:=Aside0.mk hb;clear HB HO;have HB:=Ab;have HO:=Aa;clear Aa Ab ho hb Ac hat))
         go_roundg (9 - 4)
         case measure=>omega
         case rel=>exact ⟨4,_,by omega,by omega,rfl,⟨by rw [HX.out];rfl⟩,HO,HB⟩
        ·have ix:∀ W,(Instr.index 103 (.agg #[.int .u32 a0,.int .u32 a1,.int .u32 a2,.int .u32 a3,.int .u32 a4,.int .u32 a5,.int .u32 a6,.int .u32 a7]) (.int .i64 4)).run Tryz.prog W = .ok (.int .u32 a4) W:=fun _=>by kernel_rfl
         go_wp2_with (first|((with_reducible refine gate_builtin (b:=.append) (xs:=#[.tmp 53,.tmp 65]) rfl ?_);at_builtin;refine Kd.R_append_row (Value.int .u8) (0:Int) (h1:=fun _=>rfl) (w0:=w) w.heap.size rfl (.tmp 53) (.tmp 65) 57 5 (.int .u8 0) 1 rfl Tryz.underlying57 info5 rfl (by decide) (.slice A xs.length c) xs ([a4 / 16777216 % 256,a4 / 65536 % 256,a4 / 256 % 256,a4 % 256]:List Int) (some ⟨wr.heap.size,0,none⟩) 4 4 (fun _=>True) rfl rfl (fun _ _=>trivial) ?aO ?aR ?aB ?aS ?aL ?_;(case aO=>exact Kd.R_alloc HO.out _);(case aR=>exact C_of_blk (blk_new wr _) rfl (by omega));(case aB=>exact (by repeat (first|(with_reducible first|exact HB.out|apply below_alloc|apply pw_below_drewN|apply below_drew1)|exact HB.out)));(case aS=>exact (below_size (by repeat (first|(with_reducible first|exact HB.out|apply below_alloc|apply pw_below_drewN|apply below_drew1)|exact HB.out))));(case aL=>have:=Ae;omega);intro v2 w2 ho hb Ac hat;have Aa:=Aside0.mk ho;have Ab:=Aside0.mk hb;clear HB HO;have HB:=Ab;have HO:=Aa;clear Aa Ab ho hb Ac hat))
         go_roundg (9 - 5)
         case measure=>omega
         case rel=>exact ⟨5,_,by omega,by omega,rfl,⟨by rw [HX.out];rfl⟩,HO,HB⟩
        ·have ix:∀ W,(Instr.index 103 (.agg #[.int .u32 a0,.int .u32 a1,.int .u32 a2,.int .u32 a3,.int .u32 a4,.int .u32 a5,.int .u32 a6,.int .u32 a7]) (.int .i64 5)).run Tryz.prog W = .ok (.int .u32 a5) W:=fun _=>by kernel_rfl
         go_wp2_with (first|((with_reducible refine gate_builtin (b:=.append) (xs:=#[.tmp 53,.tmp 65]) rfl ?_);at_builtin;refine Kd.R_append_row (Value.int .u8) (0:Int) (h1:=fun _=>rfl) (w0:=w) w.heap.size rfl (.tmp 53) (.tmp 65) 57 5 (.int .u8 0) 1 rfl Tryz.underlying57 info5 rfl (by decide) (.slice A xs.length c) xs ([a5 / 16777216 % 256,a5 / 65536 % 256,a5 / 256 % 256,a5 % 256]:List Int) (some ⟨wr.heap.size,0,none⟩) 4 4 (fun _=>True) rfl rfl (fun _ _=>trivial) ?aO ?aR ?aB ?aS ?aL ?_;(case aO=>exact Kd.R_alloc HO.out _);(case aR=>exact C_of_blk (blk_new wr _) rfl (by omega));(case aB=>exact (by repeat (first|(with_reducible first|exact HB.out|apply below_alloc|apply pw_below_drewN|apply below_drew1)|exact HB.out)));(case aS=>exact (below_size (by repeat (first|(with_reducible first|exact HB.out|apply below_alloc|apply pw_below_drewN|apply below_drew1)|exact HB.out))));(case aL=>have:=Ae;omega);intro v2 w2 ho hb Ac hat;have Aa:=Aside0.mk ho;have Ab:=Aside0.mk hb;clear HB HO;have HB:=Ab;have HO:=Aa;clear Aa Ab ho hb Ac hat))
         go_roundg (9 - 6)
         case measure=>omega
         case rel=>exact ⟨6,_,by omega,by omega,rfl,⟨by rw [HX.out];rfl⟩,HO,HB⟩
        ·have ix:∀ W,(Instr.index 103 (.agg #[.int .u32 a0,.int .u32 a1,.int .u32 a2,.int .u32 a3,.int .u32 a4,.int .u32 a5,.int .u32 a6,.int .u32 a7]) (.int .i64 6)).run Tryz.prog W = .ok (.int .u32 a6) W:=fun _=>by kernel_rfl
         go_wp2_with (first|((with_reducible refine gate_builtin (b:=.append) (xs:=#[.tmp 53,.tmp 65]) rfl ?_);at_builtin;refine Kd.R_append_row (Value.int .u8) (0:Int) (h1:=fun _=>rfl) (w0:=w) w.heap.size rfl (.tmp 53) (.tmp 65) 57 5 (.int .u8 0) 1 rfl Tryz.underlying57 info5 rfl (by decide) (.slice A xs.length c) xs ([a6 / 16777216 % 256,a6 / 65536 % 256,a6 / 256 % 256,a6 % 256]:List Int) (some ⟨wr.heap.size,0,none⟩) 4 4 (fun _=>True) rfl rfl (fun _ _=>trivial) ?aO ?aR ?aB ?aS ?aL ?_;(case aO=>exact Kd.R_alloc HO.out _);(case aR=>exact C_of_blk (blk_new wr _) rfl (by omega));(case aB=>exact (by repeat (first|(with_reducible first|exact HB.out|apply below_alloc|apply pw_below_drewN|apply below_drew1)|exact HB.out)));(case aS=>exact (below_size (by repeat (first|(with_reducible first|exact HB.out|apply below_alloc|apply pw_below_drewN|apply below_drew1)|exact HB.out))));(case aL=>have:=Ae;omega);intro v2 w2 ho hb Ac hat;have Aa:=Aside0.mk ho;have Ab:=Aside0.mk hb;clear HB HO;have HB:=Ab;have HO:=Aa;clear Aa Ab ho hb Ac hat))
         go_roundg (9 - 7)
         case measure=>omega
         case rel=>exact ⟨7,_,by omega,by omega,rfl,⟨by rw [HX.out];rfl⟩,HO,HB⟩
        ·have ix:∀ W,(Instr.index 103 (.agg #[.int .u32 a0,.int .u32 a1,.int .u32 a2,.int .u32 a3,.int .u32 a4,.int .u32 a5,.int .u32 a6,.int .u32 a7]) (.int .i64 7)).run Tryz.prog W = .ok (.int .u32 a7) W:=fun _=>by kernel_rfl
         go_wp2_with (first|((with_reducible refine gate_builtin (b:=.append) (xs:=#[.tmp 53,.tmp 65]) rfl ?_);at_builtin;refine Kd.R_append_row (Value.int .u8) (0:Int) (h1:=fun _=>rfl) (w0:=w) w.heap.size rfl (.tmp 53) (.tmp 65) 57 5 (.int .u8 0) 1 rfl Tryz.underlying57 info5 rfl (by decide) (.slice A xs.length c) xs ([a7 / 16777216 % 256,a7 / 65536 % 256,a7 / 256 % 256,a7 % 256]:List Int) (some ⟨wr.heap.size,0,none⟩) 4 4 (fun _=>True) rfl rfl (fun _ _=>trivial) ?aO ?aR ?aB ?aS ?aL ?_;(case aO=>exact Kd.R_alloc HO.out _);(case aR=>exact C_of_blk (blk_new wr _) rfl (by omega));(case aB=>exact (by repeat (first|(with_reducible first|exact HB.out|apply below_alloc|apply pw_below_drewN|apply below_drew1)|exact HB.out)));(case aS=>exact (below_size (by repeat (first|(with_reducible first|exact HB.out|apply below_alloc|apply pw_below_drewN|apply below_drew1)|exact HB.out))));(case aL=>have:=Ae;omega);intro v2 w2 ho hb Ac hat;have Aa:=Aside0.mk ho;have Ab:=Aside0.mk hb;clear HB HO;have HB:=Ab;have HO:=Aa;clear Aa Ab ho hb Ac hat))
         go_roundg (9 - 8)
         case measure=>omega
         case rel=>exact ⟨8,_,by omega,by omega,rfl,⟨by rw [HX.out];rfl⟩,HO,HB⟩
        ·have hcv:=Kd.C_string (P:=Tryz.prog) (A:=A) (c:=c) Tryz.underlying57 Tryz.underlying5 Tryz.underlying9 (Kd.R_reads' HO.out).2.2
         generalize hts:strOfNums xs = rs at hcv
         have HRS:=Aside0.mk hts
         clear hts
         go_wp2_with fail
         go_ret
         refine ⟨?_,HB.out⟩
         have hq:M.size / 64 = i:=by have:=HNB.out;omega
         show Ending.returned (Value.string rs) = _
         rw [← HRS.out,HX.out,← HS.out]
         unfold shaSum
         have At:data ++ strOfNums (tailTo data.size 8) = M:=by rw [← Av.out,HTS.out,HM.out]
         simp only [At,hq]
def record_Sum.f (s:ByteArray):Option ByteArray:=if s.size≤1048576 then some (shaSum s) else none
theorem record_Sum.calls (a0 r:ByteArray) (w:World) (h:record_Sum.f a0 = some r) :
  Calls Tryz.prog 30 #[.string a0] w fun e w'=>e = .returned (.string r)∧Below w.heap.size w w':=by
 unfold record_Sum.f at h
 by_cases hc:a0.size≤1048576
 case neg=>rw [if_neg hc] at h;cases h
 rw [if_pos hc] at h
 injection h with h
 subst h
 exact sum34 a0 w hc
set_option maxHeartbeats 8000000
set_option maxRecDepth 100000
def record_seal.f (l0:List (S52)) (a1:ByteArray):Option (ByteArray):=if 32≤281474976710656 then ((some (List.replicate 32 0:List Int)).bind fun y230=>(if (l0.length:Int) > 0 then (if 0≤(wrap64 ((l0.length:Int) - 1)) then (if (wrap64 ((l0.length:Int) - 1)) < (l0.length:Int) then (if ((rd_T52 l0 (wrap64 ((l0.length:Int) - 1))).f1).size + a1.size≤9223372036854775807 then ((record_Sum.f (((rd_T52 l0 (wrap64 ((l0.length:Int) - 1))).f1) ++ a1)).bind fun t234=>(some t234)) else (none)) else (none)) else (none)) else (if (strOfNums y230).size + a1.size≤9223372036854775807 then ((record_Sum.f ((strOfNums y230) ++ a1)).bind fun t235=>(some t235)) else (none)))) else (none)
theorem record_seal.calls (A0:Option Addr) (c0:Nat) (l0:List (S52)) (a1:ByteArray) (r:ByteArray) (w:World) (hr0:Kd.C k52 w A0 l0.length l0) (hc0:l0.length≤c0) (h:record_seal.f l0 a1 = some r) :
  Calls Tryz.prog 61 #[.slice A0 l0.length c0,.string a1] w fun e w'=>e = .returned (.string r)∧Below w.heap.size w w':=by
 have Ch:=Aside0.mk hr0
 have Cn:=Aside0.mk hc0
 clear hr0 hc0
 have HB:=Aside0.mk (Below.refl w.heap.size w)
 have H:=h;clear h;unfold record_seal.f at H
 by_cases c3:32≤281474976710656
 ·rw [if_pos c3] at H
  have Cg:=eq_true c3
  have Cf:decide (32≤281474976710656) = true:=decide_eq_true c3
  clear c3
  obtain ⟨y230,hy230⟩:∃ y_:List Int,y_ = (List.replicate 32 0):=⟨_,rfl⟩
  replace H:(if (l0.length:Int) > 0 then (if 0≤(wrap64 ((l0.length:Int) - 1)) then (if (wrap64 ((l0.length:Int) - 1)) < (l0.length:Int) then (if ((rd_T52 l0 (wrap64 ((l0.length:Int) - 1))).f1).size + a1.size≤9223372036854775807 then ((record_Sum.f (((rd_T52 l0 (wrap64 ((l0.length:Int) - 1))).f1) ++ a1)).bind fun Ap=>(some Ap)) else (none)) else (none)) else (none)) else (if (strOfNums y230).size + a1.size≤9223372036854775807 then ((record_Sum.f ((strOfNums y230) ++ a1)).bind fun Au=>(some Au)) else (none))) = some r:=by first|(rw [hy230];with_reducible exact H)|(have Bn:=(Option.bind_some _ _).symm.trans H;rw [hy230];with_reducible exact Bn)|(have Bn:=(Option.bind_some _ _).symm.trans H;with_reducible exact Bn)|with_reducible exact H|(rw [hy230];exact H)|exact H
  have Ao:=Aside0.mk hy230
  clear hy230
  by_cases c4:(l0.length:Int) > 0
  ·rw [if_pos c4] at H
   have Bj:decide (0 < (l0.length:Int)) = true:=decide_eq_true c4
   have Bi:decide (0 < l0.length) = true:=decide_eq_true (by omega)
   clear c4
   obtain ⟨ji5,hji5⟩:∃ j_:Int,(wrap64 ((l0.length:Int) - 1)) = j_:=⟨_,rfl⟩
   replace H:(if 0≤(ji5) then (if (ji5) < (l0.length:Int) then (if ((rd_T52 l0 (ji5)).f1).size + a1.size≤9223372036854775807 then ((record_Sum.f (((rd_T52 l0 (ji5)).f1) ++ a1)).bind fun Ap=>(some Ap)) else (none)) else (none)) else (none)) = some r:=by first|(rw [hji5] at H;exact H)|(simp only [hji5] at H ⊢;exact H)
   have Br:(IntKind.i64.wrap ((l0.length:Int) - 1)) = ji5:=(i64_w _).trans hji5
   by_cases c6:0≤(ji5)
   ·rw [if_pos c6] at H
    have Ce:decide (0≤(ji5)) = true:=decide_eq_true c6
    clear c6
    by_cases c7:(ji5) < (l0.length:Int)
    ·rw [if_pos c7] at H
     have Cc:decide ((ji5) < (l0.length:Int)) = true:=decide_eq_true c7
     clear c7
     by_cases c8:((rd_T52 l0 (ji5)).f1).size + a1.size≤9223372036854775807
     ·rw [if_pos c8] at H
      have Cb:=eq_true c8
      have Ca:decide (((rd_T52 l0 (ji5)).f1).size + a1.size≤9223372036854775807) = true:=decide_eq_true c8
      try have Bz:(9223372036854775807 < ((rd_T52 l0 (ji5)).f1).size + a1.size) = False:=eq_false (Nat.not_lt.2 c8)
      obtain ⟨Ap,A9,H⟩:=bn_ H
      obtain rfl:=Option.some.inj H
      go_enter Tryz.func61,Tryz.ntmps61
      go_wp2_with (first|((with_reducible refine gate_dst (N:=6) rfl ?_);refine Kd.R_make (Kd.int .u8) _ 5 rfl (N:=6) rfl 57 _ _ rfl 32 rfl rfl Tryz.underlying57 (.int .u8 0) 1 info5 rfl de_ (by omega) 0 (ok:=fun _=>True) (okp:=fun _=>True) rfl (fun _ hk=>hk) trivial (by omega) (by omega) (Below.refl _ _) (Nat.le_refl _) ?_;intro Bf Cm As hb Bg At;clear Bg At;(first|rw [← Ao.out] at As|(simp only [Int.reduceToNat] at As;rw [← Ao.out] at As));have Aa:=Aside0.mk (Kd.R_lower As (below_size bx_));replace HB:=bs_ hb;clear hb As;have Bu:=own_string (P:=Tryz.prog) Tryz.underlying57 Tryz.underlying5 Tryz.underlying9 (Kd.own_of_R Aa.out);have Aw:0≤((ji5):Int):=da_;have Av:(ji5) < (l0.length:Int):=da_;obtain ⟨By,Bq,Bm,Bp,Bl,Bo,Bk,Bh,Ah,Ag,Af,Ae,Ad,Ac,Ab,Ak,An,Aj,Am,Ai,Al⟩:=at_T52 Ch.out (ji5) Aw Av;cases Bh;replace Ah:=(HB.out.cell (World.block_lt_of_cell? w _ Ah)).trans Ah;replace Ag:=(HB.out.cell (World.block_lt_of_cell? w _ Ag)).trans Ag;replace Af:=(HB.out.cell (World.block_lt_of_cell? w _ Af)).trans Af;replace Ae:=(HB.out.cell (World.block_lt_of_cell? w _ Ae)).trans Ae;replace Ad:=(HB.out.cell (World.block_lt_of_cell? w _ Ad)).trans Ad;replace Ac:=(HB.out.cell (World.block_lt_of_cell? w _ Ac)).trans Ac;replace Ab:=(HB.out.cell (World.block_lt_of_cell? w _ Ab)).trans Ab;have Bb:=Aside0.mk An;have Be:=Aside0.mk Ak;clear An Ak;have Ba:=Aside0.mk Am;have Bd:=Aside0.mk Aj;clear Am Aj;have Ay:=Aside0.mk Al;have Bc:=Aside0.mk Ai;clear Al Ai;replace Aw:=eq_true Aw;replace Av:=eq_true Av)|((with_reducible refine gate_callee (f:=30) rfl ?_);refine goesL_ (some 21) rfl rfl Tryz.func30 kr_ rfl #[.string (((rd_T52 l0 (ji5)).f1) ++ a1)] rfl (by (try simp only [List.map_toArray,List.map_cons,List.map_nil]);first|done|(simp only [hji5];rfl)|rfl|(simp only [List.length_drop,List.length_take];rfl)) ?_;(with_reducible refine (record_Sum.calls (((rd_T52 l0 (ji5)).f1) ++ a1) Ap _ A9.out).mono ?_);rintro e Cl ⟨rfl,hb⟩;refine ⟨_,rfl,?_⟩;replace Aa:=rb_ Aa hb;replace HB:=bs_ hb;(try clear hb)))
      go_ret
      exact ⟨by first|rfl|(simp [errW_none,errW_some]<;>rfl)|(simp only [← hji5];first|rfl|(simp [errW_none,errW_some]<;>rfl))|(simp [*,errW_none,errW_some]<;>rfl),bx_⟩
     ·rw [if_neg c8] at H
      exact absurd H sm_
    ·rw [if_neg c7] at H
     exact absurd H sm_
   ·rw [if_neg c6] at H
    exact absurd H sm_
  ·rw [if_neg c4] at H
   have Bj:decide (0 < (l0.length:Int)) = false:=decide_eq_false c4
   have Bi:decide (0 < l0.length) = false:=decide_eq_false (by omega)
   clear c4
   by_cases Ax:(strOfNums y230).size + a1.size≤9223372036854775807
   ·rw [if_pos Ax] at H
    have Bx:=eq_true Ax
    have Bw:decide ((strOfNums y230).size + a1.size≤9223372036854775807) = true:=decide_eq_true Ax
    try have Bv:(9223372036854775807 < (strOfNums y230).size + a1.size) = False:=eq_false (Nat.not_lt.2 Ax)
    obtain ⟨Au,Ci,H⟩:=bn_ H
    obtain rfl:=Option.some.inj H
    go_enter Tryz.func61,Tryz.ntmps61
    go_wp2_with (first|((with_reducible refine gate_dst (N:=6) rfl ?_);refine Kd.R_make (Kd.int .u8) _ 5 rfl (N:=6) rfl 57 _ _ rfl 32 rfl rfl Tryz.underlying57 (.int .u8 0) 1 info5 rfl de_ (by omega) 0 (ok:=fun _=>True) (okp:=fun _=>True) rfl (fun _ hk=>hk) trivial (by omega) (by omega) (Below.refl _ _) (Nat.le_refl _) ?_;intro Bf Ck Aq hb Bg At;clear Bg At;(first|rw [← Ao.out] at Aq|(simp only [Int.reduceToNat] at Aq;rw [← Ao.out] at Aq));have Aa:=Aside0.mk (Kd.R_lower Aq (below_size bx_));replace HB:=bs_ hb;clear hb Aq;have Bt:=own_string (P:=Tryz.prog) Tryz.underlying57 Tryz.underlying5 Tryz.underlying9 (Kd.own_of_R Aa.out))|((with_reducible refine gate_callee (f:=30) rfl ?_);refine gl_ (some 21) Tryz.func30 #[.string ((strOfNums y230) ++ a1)] (record_Sum.calls ((strOfNums y230) ++ a1) Au _ Ci.out) ?_;clear HB;intro Cj hb HB;replace Aa:=rb_ Aa hb;clear hb))
    go_ret
    exact ⟨rf_,bx_⟩
   ·rw [if_neg Ax] at H
    exact absurd H sm_
 ·rw [if_neg c3] at H
  exact absurd H sm_
set_option maxHeartbeats 8000000
set_option maxRecDepth 100000
def IsS84 (w0 W:World) (g:Nat) (f0:ByteArray) (f1:Bool):Prop:=W.heap[g]? = some (.cells #[.string f0,.bool f1] 84 (0,0))∧w0.heap.size≤g
theorem IsS84.grown {w0 W:World} {g:Nat} {f0:ByteArray} {f1:Bool} {W1:World} {row:Option Nat} (h:IsS84 w0 W g f0 f1) (hw:W.grownBy W1 row) (hne:some g≠row):IsS84 w0 W1 g f0 f1:=by
 obtain ⟨hb,hg⟩:=h
 exact ⟨blk_grown hb hw hne,hg⟩
theorem IsS84.below {w0 W:World} {g:Nat} {f0:ByteArray} {f1:Bool} {W1:World} (h:IsS84 w0 W g f0 f1) (hw:Below W.heap.size W W1):IsS84 w0 W1 g f0 f1:=h.grown (grown_of_below hw none) sm_
theorem IsS84.alloc {w0 W:World} {g:Nat} {f0:ByteArray} {f1:Bool} (h:IsS84 w0 W g f0 f1) (o:Obj):IsS84 w0 (W.alloc o) g f0 f1:=h.below (below_alloc (Below.refl _ _) o)
theorem IsS84.drewN {w0 W:World} {g:Nat} {f0:ByteArray} {f1:Bool} (h:IsS84 w0 W g f0 f1) (m:Nat):IsS84 w0 (W.drewN m) g f0 f1:=h
theorem IsS84.drew {w0 W:World} {g:Nat} {f0:ByteArray} {f1:Bool} (h:IsS84 w0 W g f0 f1):IsS84 w0 W.drew g f0 f1:=h
theorem IsS84.apart {w0 W:World} {g:Nat} {f0:ByteArray} {f1:Bool} {α:Type} {d:Kd α} {e:Nat} {base:Nat} {ok:Nat→Prop} {v:Value} {xs:List α} (h:IsS84 w0 W g f0 f1) (ho:d.R e W base ok v xs) (ht:∀ q,q ∈ e :: d.E→q≠84):d.R e W base (fun k=>ok k∧k≠g) v xs:=by
 obtain ⟨hb,hg⟩:=h
 exact Kd.R_types ho hb ht
theorem IsS84.own_ne {w0 W:World} {g:Nat} {f0:ByteArray} {f1:Bool} {α:Type} {d:Kd α} {e:Nat} {base:Nat} {ok:Nat→Prop} {v:Value} {xs:List α} (h:IsS84 w0 W g f0 f1) (ho:d.R e W base ok v xs) (ht:e≠84):some g≠v.ownBlock:=by
 obtain ⟨hb,hg⟩:=h
 exact Kd.R_ne ho hb ht
theorem IsS84.apartS {w0 W:World} {g:Nat} {f0:ByteArray} {f1:Bool} {α:Type} {d:Kd α} {e:Nat} {base:Nat} {ok:Nat→Prop} {v:Value} {xs:List α} (h:IsS84 w0 W g f0 f1) (ho:d.S e W base ok v xs) (ht:∀ q,q ∈ e :: d.E→q≠84):d.S e W base (fun k=>ok k∧k≠g) v xs:=by
 obtain ⟨hb,hg⟩:=h
 exact Kd.S_types ho hb ht
theorem IsS84.own_neS {w0 W:World} {g:Nat} {f0:ByteArray} {f1:Bool} {α:Type} {d:Kd α} {e:Nat} {base:Nat} {ok:Nat→Prop} {v:Value} {xs:List α} (h:IsS84 w0 W g f0 f1) (ho:d.S e W base ok v xs) (ht:e≠84):some g≠v.ownBlock:=by
 obtain ⟨hb,hg⟩:=h
 exact Kd.S_ne ho hb ht
theorem IsS84.lt {w0 W:World} {g:Nat} {f0:ByteArray} {f1:Bool} (h:IsS84 w0 W g f0 f1):g < W.heap.size:=by
 obtain ⟨hb,hg⟩:=h
 exact blk_lt hb
theorem IsS84.ge {w0 W:World} {g:Nat} {f0:ByteArray} {f1:Bool} (h:IsS84 w0 W g f0 f1):w0.heap.size≤g:=by
 obtain ⟨hb,hg⟩:=h
 exact hg
theorem IsS84.ne_blk {w0 W:World} {g:Nat} {f0:ByteArray} {f1:Bool} {a:Nat} {cs:Array Value} {t:TypeId} {fr:Nat × Nat} (h:IsS84 w0 W g f0 f1) (hb2:W.heap[a]? = some (.cells cs t fr)) (ht:t≠84):g≠a:=by
 obtain ⟨hb,hg⟩:=h
 rintro rfl
 rw [hb] at hb2
 injection hb2 with hb2
 injection hb2 with _ ht2
 exact ht ht2.symm
theorem IsS84.far {w0 W:World} {g:Nat} {f0:ByteArray} {f1:Bool} {p:Addr} (h:IsS84 w0 W g f0 f1) (hne:g≠p.block) (u:Value):IsS84 w0 (W.setCell p u) g f0 f1:=by
 obtain ⟨hb,hg⟩:=h
 exact ⟨blk_far hb hne u,hg⟩
theorem cellS84_0 {W:World} {g:Nat} {f0:ByteArray} {f1:Bool} (h:W.heap[g]? = some (.cells #[.string f0,.bool f1] 84 (0,0))):W.cell? ⟨g,0,none⟩ = some (.string f0):=(blk_cell h 0).trans rfl
theorem IsS84.set_0 {w0 W:World} {g:Nat} {f0:ByteArray} {f1:Bool} (h:IsS84 w0 W g f0 f1) (x:ByteArray):IsS84 w0 (W.setCell ⟨g,0,none⟩ (.string x)) g x f1:=by
 obtain ⟨hb,hg⟩:=h
 exact ⟨by simpa using blk_set hb 0 (.string x),hg⟩
theorem cellS84_1 {W:World} {g:Nat} {f0:ByteArray} {f1:Bool} (h:W.heap[g]? = some (.cells #[.string f0,.bool f1] 84 (0,0))):W.cell? ⟨g,1,none⟩ = some (.bool f1):=(blk_cell h 1).trans rfl
theorem IsS84.set_1 {w0 W:World} {g:Nat} {f0:ByteArray} {f1:Bool} (h:IsS84 w0 W g f0 f1) (x:Bool):IsS84 w0 (W.setCell ⟨g,1,none⟩ (.bool x)) g f0 x:=by
 obtain ⟨hb,hg⟩:=h
 exact ⟨by simpa using blk_set hb 1 (.bool x),hg⟩
mutual
def record_reader_short.l0:Nat→Int→Int→ByteArray→Bool→Option (Int × ByteArray × Bool)
 | 0,_,_,_,_=>none
 | k + 1,x3,x4,x1000,x1001=>if x4 < 63 then (record_reader_short.j1 k x3 x4 (x1000.toList != ([]:List UInt8)) x1000 x1001) else (record_reader_short.j1 k x3 x4 false x1000 x1001)
def record_reader_short.j1:Nat→Int→Int→Bool→ByteArray→Bool→Option (Int × ByteArray × Bool)
 | 0,_,_,_,_,_=>none
 | k + 1,x3,x4,x14,x1000,x1001=>if x14 = true then (if 0 < (x1000.size:Int) then (if 1≤(x1000.size:Int) then (if 0≤x4 then (if (bt x1000 0) < 128 then (if (bt x1000 0) = 0 then (if x4 > 0 then (some (0,x1000.extract 1 x1000.size,true)) else (if (Go.bits .or .i64 x3 (shl .i64 (wrap64 (Go.bits .and .u8 (bt x1000 0) 127)) x4)) < 0 then (some (0,x1000.extract 1 x1000.size,true)) else (some (Go.bits .or .i64 x3 (shl .i64 (wrap64 (Go.bits .and .u8 (bt x1000 0) 127)) x4),x1000.extract 1 x1000.size,x1001)))) else (if (Go.bits .or .i64 x3 (shl .i64 (wrap64 (Go.bits .and .u8 (bt x1000 0) 127)) x4)) < 0 then (some (0,x1000.extract 1 x1000.size,true)) else (some (Go.bits .or .i64 x3 (shl .i64 (wrap64 (Go.bits .and .u8 (bt x1000 0) 127)) x4),x1000.extract 1 x1000.size,x1001)))) else (record_reader_short.l0 k (Go.bits .or .i64 x3 (shl .i64 (wrap64 (Go.bits .and .u8 (bt x1000 0) 127)) x4)) (wrap64 (x4 + 7)) (x1000.extract 1 x1000.size) x1001)) else (none)) else (none)) else (none)) else (some (0,x1000,true))
end
def record_reader_short.f (k:Nat) (s0_0:ByteArray) (s0_1:Bool):Option (Int × ByteArray × Bool):=record_reader_short.l0 k 0 0 s0_0 s0_1
theorem record_reader_short.mono_l:∀ k,(∀ y0 y1 y2 y3,LeO (record_reader_short.l0 k y0 y1 y2 y3) (record_reader_short.l0 (k + 1) y0 y1 y2 y3))∧(∀ y0 y1 y2 y3 y4,LeO (record_reader_short.j1 k y0 y1 y2 y3 y4) (record_reader_short.j1 (k + 1) y0 y1 y2 y3 y4))
 | 0=>⟨fun _ _ _ _ r h=>by simp [record_reader_short.l0] at h,fun _ _ _ _ _ r h=>by simp [record_reader_short.j1] at h⟩
 | k + 1=>by
  obtain ⟨ih0,ih1⟩:=record_reader_short.mono_l k
  refine ⟨?_,?_⟩
  ·intro y0 y1 y2 y3
   unfold record_reader_short.l0
   repeat' first
   | (with_reducible exact ih0 _ _ _ _)
   | (with_reducible exact ih1 _ _ _ _ _)
   | (with_reducible exact LeO.refl _)
   | (with_reducible exact LeO.none _)
   | (with_reducible refine LeO.ite ?_ ?_)
   | (with_reducible refine LeO.bind ?_ (fun _=>?_))
   | exact ih0 _ _ _ _
   | exact ih1 _ _ _ _ _
   | exact LeO.none _
   | refine LeO.ite ?_ ?_
   | refine LeO.bind ?_ (fun _=>?_)
  ·intro y0 y1 y2 y3 y4
   unfold record_reader_short.j1
   repeat' first
   | (with_reducible exact ih0 _ _ _ _)
   | (with_reducible exact ih1 _ _ _ _ _)
   | (with_reducible exact LeO.refl _)
   | (with_reducible exact LeO.none _)
   | (with_reducible refine LeO.ite ?_ ?_)
   | (with_reducible refine LeO.bind ?_ (fun _=>?_))
   | exact ih0 _ _ _ _
   | exact ih1 _ _ _ _ _
   | exact LeO.none _
   | refine LeO.ite ?_ ?_
   | refine LeO.bind ?_ (fun _=>?_)
theorem record_reader_short.mono:∀ a0 a1 k,LeO (record_reader_short.f k a0 a1) (record_reader_short.f (k + 1) a0 a1):=by
 intro a0 a1 k
 obtain ⟨Ab,Aa⟩:=record_reader_short.mono_l k
 unfold record_reader_short.f
 repeat' first
   | (with_reducible exact Ab _ _ _ _)
   | (with_reducible exact Aa _ _ _ _ _)
   | (with_reducible exact LeO.refl _)
   | (with_reducible exact LeO.none _)
   | (with_reducible refine LeO.ite ?_ ?_)
   | (with_reducible refine LeO.bind ?_ (fun _=>?_))
   | exact Ab _ _ _ _
   | exact Aa _ _ _ _ _
   | exact LeO.none _
   | refine LeO.ite ?_ ?_
   | refine LeO.bind ?_ (fun _=>?_)
theorem record_reader_short.calls (k:Nat) (g:Nat) (s0_0:ByteArray) (s0_1:Bool) (r1:Int) (r2:ByteArray) (r3:Bool) (w0 w:World) (hI:IsS84 w0 w g s0_0 s0_1) (hB:Below w0.heap.size w0 w) (h:record_reader_short.f k s0_0 s0_1 = some (r1,r2,r3)) :
  Calls Tryz.prog 54 #[.pointer (some ⟨g,0,none⟩)] w fun e w'=>e = .returned (.int .i64 r1)∧IsS84 w0 w' g r2 r3∧Below w0.heap.size w0 w'∧KeepBut w w' g none:=by
 have Ad:=Aside0.mk hI
 have HK:=Aside0.mk (KeepBut.refl w g none)
 have HL:=Aside0.mk hB.size
 clear hI
 have Dh:=Aside0.mk hB.size
 have HB:=Aside0.mk hB
 clear hB
 have H:=h;clear h;unfold record_reader_short.f at H
 have H':=Aside0.mk H
 clear H
 go_enter Tryz.func54,Tryz.ntmps54
 go_wp2
 go_loopg [3,4] k (fun kq v3 v4 w'=>∃ (Ac:Int) (Ab:Int) (Aa:ByteArray),v3 = .int .i64 Ac∧v4 = .int .i64 Ab∧Aside0 (record_reader_short.l0 kq Ac Ab Aa s0_1 = some (r1,r2,r3))∧Aside0 (kq≤k)∧Aside0 (IsS84 w0 w' g Aa s0_1)∧Aside0 (KeepBut w w' g none)∧Aside0 (Below w0.heap.size w0 w'))
 case atStart=>exact ⟨(0),(0),(s0_0),rg_,rg_,H',⟨Nat.le_refl _⟩,⟨by repeat (first|(with_reducible first|exact Ad.out|apply IsS84.alloc|apply IsS84.drewN|apply IsS84.drew|apply IsS84.set_0|apply IsS84.set_1)|exact Ad.out)⟩,⟨kx_⟩,⟨by repeat (first|(with_reducible first|exact HB.out|apply below_alloc|apply pw_below_drewN|apply below_drew1|refine below_set ?_ (IsS84.ge Ad.out))|exact HB.out)⟩⟩
 case round =>
  clear H'
  obtain ⟨Ac,Ab,Aa,rfl,rfl,HA,Cq,Ad,HK,HB⟩:=hrel
  cases gk with
  | zero=>exact absurd HA.out (by simp [record_reader_short.l0])
  | succ k1 =>
   have H:=HA.out
   clear HA
   simp only [record_reader_short.l0] at H
   have Cy:=Aside0.mk H
   clear H
   go_upto_region 3 with (fail)
   go_cut [14] (fun Da wc=>∃ (kq:Nat) (Al:Bool),Da = .bool Al∧Aside0 (record_reader_short.j1 kq Ac Ab Al Aa s0_1 = some (r1,r2,r3))∧Aside0 (kq≤k1)∧Aside0 (IsS84 w0 wc g Aa s0_1)∧Aside0 (KeepBut w wc g none)∧Aside0 (Below w0.heap.size w0 wc))
   case first =>
    have H:=Cy.out
    clear Cy
    by_cases c3:Ab < 63
    ·rw [if_pos c3] at H
     have Am:decide (Ab < 63) = true:=decide_eq_true c3
     clear c3
     (first|rw [Am]|(simp only [i64_w,i32_w];rw [Am])|skip)
     have H':=Aside0.mk H
     clear H
     obtain ⟨An,Ct⟩:=Ad.out
     have Cx:=cellS84_0 An
     have Cw:=cellS84_1 An
     have Cv:=blk_frozen An 0
     have Cu:=blk_frozen An 1
     clear An Ct
     go_wp2
     go_meet
     case rel=>exact ⟨_,((Aa.toList != ([]:List UInt8))),rg_,H',⟨by have:=Cq.out;first|omega|exact Nat.le_refl _⟩,⟨by repeat (first|(with_reducible first|exact Ad.out|apply IsS84.alloc|apply IsS84.drewN|apply IsS84.drew|apply IsS84.set_0|apply IsS84.set_1)|exact Ad.out)⟩,⟨kx_⟩,⟨by repeat (first|(with_reducible first|exact HB.out|apply below_alloc|apply pw_below_drewN|apply below_drew1|refine below_set ?_ (IsS84.ge Ad.out))|exact HB.out)⟩⟩
    ·rw [if_neg c3] at H
     have Am:decide (Ab < 63) = false:=decide_eq_false c3
     clear c3
     (first|rw [Am]|(simp only [i64_w,i32_w];rw [Am])|skip)
     have H':=Aside0.mk H
     clear H
     go_wp2
     go_meet
     case rel=>exact ⟨_,(false),rg_,H',⟨by have:=Cq.out;first|omega|exact Nat.le_refl _⟩,⟨by repeat (first|(with_reducible first|exact Ad.out|apply IsS84.alloc|apply IsS84.drewN|apply IsS84.drew|apply IsS84.set_0|apply IsS84.set_1)|exact Ad.out)⟩,⟨kx_⟩,⟨by repeat (first|(with_reducible first|exact HB.out|apply below_alloc|apply pw_below_drewN|apply below_drew1|refine below_set ?_ (IsS84.ge Ad.out))|exact HB.out)⟩⟩
   case rest =>
    clear Cy
    obtain ⟨kq,Al,rfl,HA,Cz,Ad,HK,HB⟩:=hcut
    cases kq with
    | zero=>exact absurd HA.out (by simp [record_reader_short.j1])
    | succ kj1 =>
     have H:=HA.out
     clear HA
     simp only [record_reader_short.j1] at H
     by_cases c5:Al = true
     ·subst c5
      have H1:(if 0 < (Aa.size:Int) then (if 1≤(Aa.size:Int) then (if 0≤Ab then (if (bt Aa 0) < 128 then (if (bt Aa 0) = 0 then (if Ab > 0 then (some (0,Aa.extract 1 Aa.size,true)) else (if (Go.bits .or .i64 Ac (shl .i64 (wrap64 (Go.bits .and .u8 (bt Aa 0) 127)) Ab)) < 0 then (some (0,Aa.extract 1 Aa.size,true)) else (some (Go.bits .or .i64 Ac (shl .i64 (wrap64 (Go.bits .and .u8 (bt Aa 0) 127)) Ab),Aa.extract 1 Aa.size,s0_1)))) else (if (Go.bits .or .i64 Ac (shl .i64 (wrap64 (Go.bits .and .u8 (bt Aa 0) 127)) Ab)) < 0 then (some (0,Aa.extract 1 Aa.size,true)) else (some (Go.bits .or .i64 Ac (shl .i64 (wrap64 (Go.bits .and .u8 (bt Aa 0) 127)) Ab),Aa.extract 1 Aa.size,s0_1)))) else (record_reader_short.l0 kj1 (Go.bits .or .i64 Ac (shl .i64 (wrap64 (Go.bits .and .u8 (bt Aa 0) 127)) Ab)) (wrap64 (Ab + 7)) (Aa.extract 1 Aa.size) s0_1)) else (none)) else (none)) else (none)) = some (r1,r2,r3):=by rw [if_pos rfl] at H;exact H
      clear H
      have H:=H1
      clear H1
      by_cases c6:0 < (Aa.size:Int)
      ·rw [if_pos c6] at H
       have Dg:decide (0 < (Aa.size:Int)) = true:=decide_eq_true c6
       have Df:decide (0 < Aa.size) = true:=decide_eq_true (by omega)
       clear c6
       by_cases c8:1≤(Aa.size:Int)
       ·rw [if_pos c8] at H
        have De:=eq_true c8
        have Dd:decide (1≤(Aa.size:Int)) = true:=decide_eq_true c8
        clear c8
        by_cases c9:0≤Ab
        ·rw [if_pos c9] at H
         have Dc:=eq_true c9
         have Db:decide (0≤Ab) = true:=decide_eq_true c9
         clear c9
         obtain ⟨ji10,hji10⟩:∃ j_:Int,(shl .i64 (wrap64 (Go.bits .and .u8 (bt Aa 0) 127)) Ab) = j_:=⟨_,rfl⟩
         replace H:(if (bt Aa 0) < 128 then (if (bt Aa 0) = 0 then (if Ab > 0 then (some (0,Aa.extract 1 Aa.size,true)) else (if (Go.bits .or .i64 Ac (ji10)) < 0 then (some (0,Aa.extract 1 Aa.size,true)) else (some (Go.bits .or .i64 Ac (ji10),Aa.extract 1 Aa.size,s0_1)))) else (if (Go.bits .or .i64 Ac (ji10)) < 0 then (some (0,Aa.extract 1 Aa.size,true)) else (some (Go.bits .or .i64 Ac (ji10),Aa.extract 1 Aa.size,s0_1)))) else (record_reader_short.l0 kj1 (Go.bits .or .i64 Ac (ji10)) (wrap64 (Ab + 7)) (Aa.extract 1 Aa.size) s0_1)) = some (r1,r2,r3):=by first|(rw [hji10] at H;exact H)|(simp only [hji10] at H ⊢;exact H)
         have Ap:(IntKind.i64.wrap ((wrap64 (Go.bits .and .u8 (bt Aa 0) 127)) * 2 ^ min Ab.toNat 64)) = ji10:=hji10
         have Ao:Ab≤64→(IntKind.i64.wrap ((wrap64 (Go.bits .and .u8 (bt Aa 0) 127)) * 2 ^ Ab.toNat)) = ji10:=shl_small hji10
         have Cr:(wrap64 ((wrap64 (Go.bits .and .u8 (bt Aa 0) 127)) * 2 ^ min Ab.toNat 64)) = ji10:=(i64_w _).symm.trans Ap
         have Cs:Ab≤64→(wrap64 ((wrap64 (Go.bits .and .u8 (bt Aa 0) 127)) * 2 ^ Ab.toNat)) = ji10:=fun h_=>(i64_w _).symm.trans (Ao h_)
         by_cases Av:(bt Aa 0) < 128
         ·rw [if_pos Av] at H
          have Bl:decide ((bt Aa 0) < 128) = true:=decide_eq_true Av
          clear Av
          by_cases Aq:(bt Aa 0) = 0
          ·rw [if_pos Aq] at H
           have Bk:((bt Aa 0) == 0) = true:=beq_iff_eq.mpr Aq
           have Bj:((bt Aa 0) != 0) = false:=bne_eq_false_iff_eq.mpr Aq
           clear Aq
           by_cases Au:Ab > 0
           ·rw [if_pos Au] at H
            have Bi:decide (0 < Ab) = true:=decide_eq_true Au
            clear Au
            simp only [Option.some.injEq,Prod.mk.injEq] at H
            obtain ⟨rfl,rfl,rfl⟩:=H
            obtain ⟨Ak,Bf⟩:=Ad.out
            have Cp:=cellS84_0 Ak
            have Co:=cellS84_1 Ak
            have Ca:=blk_frozen Ak 0
            have Bz:=blk_frozen Ak 1
            clear Ak Bf
            have p7:0≤(0:Int):=(by omega)
            have q7:0 < Aa.size:=(by have:(0:Int) < (Aa.size:Int):=da_;omega)
            have Ax:∀ h:0 < Aa.size,((Aa[0]'h).toNat:Int) = bt Aa 0:=bt_at Aa 0
            clear p7
            have Aw:(0 < (Aa.size:Int)) = True:=eq_true (of_decide_eq_true (by first|(with_reducible assumption)|assumption))
            replace q7:=eq_true q7
            go_wp2
            go_ret
            exact ⟨by first|rfl|(simp [errW_none,errW_some]<;>rfl)|(simp only [← hji10];first|rfl|(simp [errW_none,errW_some]<;>rfl))|(simp [*,errW_none,errW_some]<;>rfl),by repeat (first|(with_reducible first|exact Ad.out|apply IsS84.alloc|apply IsS84.drewN|apply IsS84.drew|apply IsS84.set_0|apply IsS84.set_1)|exact Ad.out),by repeat (first|(with_reducible first|exact HB.out|apply below_alloc|apply pw_below_drewN|apply below_drew1|refine below_set ?_ (IsS84.ge Ad.out))|exact HB.out),kx_⟩
           ·rw [if_neg Au] at H
            have Bi:decide (0 < Ab) = false:=decide_eq_false Au
            clear Au
            by_cases At:(Go.bits .or .i64 Ac (ji10)) < 0
            ·rw [if_pos At] at H
             have Bh:decide ((Go.bits .or .i64 Ac (ji10)) < 0) = true:=decide_eq_true At
             clear At
             simp only [Option.some.injEq,Prod.mk.injEq] at H
             obtain ⟨rfl,rfl,rfl⟩:=H
             obtain ⟨Aj,Be⟩:=Ad.out
             have Cn:=cellS84_0 Aj
             have Cm:=cellS84_1 Aj
             have By:=blk_frozen Aj 0
             have Bx:=blk_frozen Aj 1
             clear Aj Be
             have p7:0≤(0:Int):=(by omega)
             have q7:0 < Aa.size:=(by have:(0:Int) < (Aa.size:Int):=da_;omega)
             have Ax:∀ h:0 < Aa.size,((Aa[0]'h).toNat:Int) = bt Aa 0:=bt_at Aa 0
             clear p7
             have Aw:(0 < (Aa.size:Int)) = True:=eq_true (of_decide_eq_true (by first|(with_reducible assumption)|assumption))
             replace q7:=eq_true q7
             go_wp2
             go_ret
             exact ⟨by first|rfl|(simp [errW_none,errW_some]<;>rfl)|(simp only [← hji10];first|rfl|(simp [errW_none,errW_some]<;>rfl))|(simp [*,errW_none,errW_some]<;>rfl),by repeat (first|(with_reducible first|exact Ad.out|apply IsS84.alloc|apply IsS84.drewN|apply IsS84.drew|apply IsS84.set_0|apply IsS84.set_1)|exact Ad.out),by repeat (first|(with_reducible first|exact HB.out|apply below_alloc|apply pw_below_drewN|apply below_drew1|refine below_set ?_ (IsS84.ge Ad.out))|exact HB.out),kx_⟩
            ·rw [if_neg At] at H
             have Bh:decide ((Go.bits .or .i64 Ac (ji10)) < 0) = false:=decide_eq_false At
             clear At
             simp only [Option.some.injEq,Prod.mk.injEq] at H
             obtain ⟨rfl,rfl,rfl⟩:=H
             obtain ⟨Ai,Bd⟩:=Ad.out
             have Cl:=cellS84_0 Ai
             have Ck:=cellS84_1 Ai
             have Bw:=blk_frozen Ai 0
             have Bv:=blk_frozen Ai 1
             clear Ai Bd
             have p7:0≤(0:Int):=(by omega)
             have q7:0 < Aa.size:=(by have:(0:Int) < (Aa.size:Int):=da_;omega)
             have Ax:∀ h:0 < Aa.size,((Aa[0]'h).toNat:Int) = bt Aa 0:=bt_at Aa 0
             clear p7
             have Aw:(0 < (Aa.size:Int)) = True:=eq_true (of_decide_eq_true (by first|(with_reducible assumption)|assumption))
             replace q7:=eq_true q7
             go_wp2
             go_ret
             exact ⟨by first|rfl|(simp [errW_none,errW_some]<;>rfl)|(simp only [← hji10];first|rfl|(simp [errW_none,errW_some]<;>rfl))|(simp [*,errW_none,errW_some]<;>rfl),by repeat (first|(with_reducible first|exact Ad.out|apply IsS84.alloc|apply IsS84.drewN|apply IsS84.drew|apply IsS84.set_0|apply IsS84.set_1)|exact Ad.out),by repeat (first|(with_reducible first|exact HB.out|apply below_alloc|apply pw_below_drewN|apply below_drew1|refine below_set ?_ (IsS84.ge Ad.out))|exact HB.out),kx_⟩
          ·rw [if_neg Aq] at H
           have Bk:((bt Aa 0) == 0) = false:=beq_eq_false_iff_ne.mpr Aq
           have Bj:((bt Aa 0) != 0) = true:=bne_iff_ne.mpr Aq
           by_cases As:(Go.bits .or .i64 Ac (ji10)) < 0
           ·rw [if_pos As] at H
            have Bg:decide ((Go.bits .or .i64 Ac (ji10)) < 0) = true:=decide_eq_true As
            clear As
            simp only [Option.some.injEq,Prod.mk.injEq] at H
            obtain ⟨rfl,rfl,rfl⟩:=H
            obtain ⟨Ah,Bc⟩:=Ad.out
            have Cj:=cellS84_0 Ah
            have Ci:=cellS84_1 Ah
            have Bu:=blk_frozen Ah 0
            have Bt:=blk_frozen Ah 1
            clear Ah Bc
            have p7:0≤(0:Int):=(by omega)
            have q7:0 < Aa.size:=(by have:(0:Int) < (Aa.size:Int):=da_;omega)
            have Ax:∀ h:0 < Aa.size,((Aa[0]'h).toNat:Int) = bt Aa 0:=bt_at Aa 0
            clear p7
            have Aw:(0 < (Aa.size:Int)) = True:=eq_true (of_decide_eq_true (by first|(with_reducible assumption)|assumption))
            replace q7:=eq_true q7
            go_wp2
            go_ret
            exact ⟨by first|rfl|(simp [errW_none,errW_some]<;>rfl)|(simp only [← hji10];first|rfl|(simp [errW_none,errW_some]<;>rfl))|(simp [*,errW_none,errW_some]<;>rfl),by repeat (first|(with_reducible first|exact Ad.out|apply IsS84.alloc|apply IsS84.drewN|apply IsS84.drew|apply IsS84.set_0|apply IsS84.set_1)|exact Ad.out),by repeat (first|(with_reducible first|exact HB.out|apply below_alloc|apply pw_below_drewN|apply below_drew1|refine below_set ?_ (IsS84.ge Ad.out))|exact HB.out),kx_⟩
           ·rw [if_neg As] at H
            have Bg:decide ((Go.bits .or .i64 Ac (ji10)) < 0) = false:=decide_eq_false As
            clear As
            simp only [Option.some.injEq,Prod.mk.injEq] at H
            obtain ⟨rfl,rfl,rfl⟩:=H
            obtain ⟨Ag,Bb⟩:=Ad.out
            have Ch:=cellS84_0 Ag
            have Cg:=cellS84_1 Ag
            have Br:=blk_frozen Ag 0
            have Bq:=blk_frozen Ag 1
            clear Ag Bb
            have p7:0≤(0:Int):=(by omega)
            have q7:0 < Aa.size:=(by have:(0:Int) < (Aa.size:Int):=da_;omega)
            have Ax:∀ h:0 < Aa.size,((Aa[0]'h).toNat:Int) = bt Aa 0:=bt_at Aa 0
            clear p7
            have Aw:(0 < (Aa.size:Int)) = True:=eq_true (of_decide_eq_true (by first|(with_reducible assumption)|assumption))
            replace q7:=eq_true q7
            go_wp2
            go_ret
            exact ⟨by first|rfl|(simp [errW_none,errW_some]<;>rfl)|(simp only [← hji10];first|rfl|(simp [errW_none,errW_some]<;>rfl))|(simp [*,errW_none,errW_some]<;>rfl),by repeat (first|(with_reducible first|exact Ad.out|apply IsS84.alloc|apply IsS84.drewN|apply IsS84.drew|apply IsS84.set_0|apply IsS84.set_1)|exact Ad.out),by repeat (first|(with_reducible first|exact HB.out|apply below_alloc|apply pw_below_drewN|apply below_drew1|refine below_set ?_ (IsS84.ge Ad.out))|exact HB.out),kx_⟩
         ·rw [if_neg Av] at H
          have Bl:decide ((bt Aa 0) < 128) = false:=decide_eq_false Av
          clear Av
          have H':=Aside0.mk H
          clear H
          obtain ⟨Af,Ba⟩:=Ad.out
          have Cf:=cellS84_0 Af
          have Ce:=cellS84_1 Af
          have Bp:=blk_frozen Af 0
          have Bo:=blk_frozen Af 1
          clear Af Ba
          have p7:0≤(0:Int):=(by omega)
          have q7:0 < Aa.size:=(by have:(0:Int) < (Aa.size:Int):=da_;omega)
          have Ax:∀ h:0 < Aa.size,((Aa[0]'h).toNat:Int) = bt Aa 0:=bt_at Aa 0
          clear p7
          have Aw:(0 < (Aa.size:Int)) = True:=eq_true (of_decide_eq_true (by first|(with_reducible assumption)|assumption))
          replace q7:=eq_true q7
          go_wp2
          go_roundg kj1
          case measure=>have:=Cq.out;have:=Cz.out;omega
          case rel=>exact ⟨(Go.bits .or .i64 Ac (ji10)),(wrap64 (Ab + 7)),(Aa.extract 1 Aa.size),(by first|rfl|(simp;done)|(simp only [← hji10]<;>(first|rfl|simp))|(simp [*];done)),rg_,H',⟨by have:=Cq.out;have:=Cz.out;omega⟩,⟨by repeat (first|(with_reducible first|exact Ad.out|apply IsS84.alloc|apply IsS84.drewN|apply IsS84.drew|apply IsS84.set_0|apply IsS84.set_1)|exact Ad.out)⟩,⟨kx_⟩,⟨by repeat (first|(with_reducible first|exact HB.out|apply below_alloc|apply pw_below_drewN|apply below_drew1|refine below_set ?_ (IsS84.ge Ad.out))|exact HB.out)⟩⟩
        ·rw [if_neg c9] at H
         exact absurd H sm_
       ·rw [if_neg c8] at H
        exact absurd H sm_
      ·rw [if_neg c6] at H
       exact absurd H sm_
     ·replace c5:=Bool.eq_false_iff.mpr c5
      subst c5
      have H1:(some (0,Aa,true)) = some (r1,r2,r3):=by rw [if_neg (show ¬ (false = true) by decide)] at H;exact H
      clear H
      have H:=H1
      clear H1
      simp only [Option.some.injEq,Prod.mk.injEq] at H
      obtain ⟨rfl,rfl,rfl⟩:=H
      obtain ⟨Ae,Ay⟩:=Ad.out
      have Cc:=cellS84_0 Ae
      have Cb:=cellS84_1 Ae
      have Bn:=blk_frozen Ae 0
      have Bm:=blk_frozen Ae 1
      clear Ae Ay
      go_wp2
      go_ret
      exact ⟨rf_,by repeat (first|(with_reducible first|exact Ad.out|apply IsS84.alloc|apply IsS84.drewN|apply IsS84.drew|apply IsS84.set_0|apply IsS84.set_1)|exact Ad.out),by repeat (first|(with_reducible first|exact HB.out|apply below_alloc|apply pw_below_drewN|apply below_drew1|refine below_set ?_ (IsS84.ge Ad.out))|exact HB.out),kx_⟩
set_option maxHeartbeats 8000000
set_option maxRecDepth 100000
def record_reader_bytes.f (k:Nat) (s0_0:ByteArray) (s0_1:Bool):Option (ByteArray × ByteArray × Bool):=(record_reader_short.f k s0_0 s0_1).bind fun bt252=>(if bt252.2.2 = true then (some ((⟨#[]⟩:ByteArray),bt252.2.1,true)) else (if bt252.1 > (bt252.2.1.size:Int) then (some ((⟨#[]⟩:ByteArray),bt252.2.1,true)) else (if 0≤bt252.1 then (if bt252.1≤(bt252.2.1.size:Int) then (some (bt252.2.1.extract 0 (bt252.1:Int).toNat,bt252.2.1.extract (bt252.1:Int).toNat bt252.2.1.size,bt252.2.2)) else (none)) else (none))))
theorem record_reader_bytes.mono:∀ a0 a1 k,LeO (record_reader_bytes.f k a0 a1) (record_reader_bytes.f (k + 1) a0 a1):=by intro a0 a1 k;unfold record_reader_bytes.f;have:=@record_reader_short.mono;exact mn_
theorem record_reader_bytes.calls (k:Nat) (g:Nat) (s0_0:ByteArray) (s0_1:Bool) (r1:ByteArray) (r2:ByteArray) (r3:Bool) (w0 w:World) (hI:IsS84 w0 w g s0_0 s0_1) (hB:Below w0.heap.size w0 w) (h:record_reader_bytes.f k s0_0 s0_1 = some (r1,r2,r3)) :
  Calls Tryz.prog 56 #[.pointer (some ⟨g,0,none⟩)] w fun e w'=>e = .returned (.string r1)∧IsS84 w0 w' g r2 r3∧Below w0.heap.size w0 w'∧KeepBut w w' g none:=by
 have Ac:=Aside0.mk hI
 have HK:=Aside0.mk (KeepBut.refl w g none)
 have HL:=Aside0.mk hB.size
 clear hI
 have Bh:=Aside0.mk hB.size
 have HB:=Aside0.mk hB
 clear hB
 have H:=h;clear h;unfold record_reader_bytes.f at H
 obtain ⟨⟨Aa,Ab,Am⟩,A2,H⟩:=bn_ H
 dsimp only at H
 by_cases c3:Am = true
 ·subst c3
  have H1:(some ((⟨#[]⟩:ByteArray),Ab,true)) = some (r1,r2,r3):=by rw [if_pos rfl] at H;exact H
  clear H
  have H:=H1
  clear H1
  simp only [Option.some.injEq,Prod.mk.injEq] at H
  obtain ⟨rfl,rfl,rfl⟩:=H
  go_enter Tryz.func56,Tryz.ntmps56
  go_wp2_with (first|((with_reducible refine gate_callee (f:=54) rfl ?_);refine gm_ (some 6) Tryz.func54 #[.pointer (some ⟨g,0,none⟩)] ?_;(with_reducible refine (record_reader_short.calls k g s0_0 s0_1 Aa Ab true w0 _ ?side1 ?side2 A2.out).mono ?_);(case side1=>repeat (first|(with_reducible first|exact Ac.out|apply IsS84.alloc|apply IsS84.drewN|apply IsS84.drew|apply IsS84.set_0|apply IsS84.set_1)|exact Ac.out));(case side2=>repeat (first|(with_reducible first|exact HB.out|apply below_alloc|apply pw_below_drewN|apply below_drew1|refine below_set ?_ (IsS84.ge Ac.out))|exact HB.out));rintro e w4 ⟨rfl,hi,hb,hk⟩;refine ⟨_,rfl,?_⟩;replace HK:=Aside0.mk (KeepBut.trans (kx_) hk (.inl rfl));replace Ac:=Aside0.mk hi;replace HB:=Aside0.mk hb;(try clear hb);(try clear hk);(try clear hi);obtain ⟨Af,Ao⟩:=Ac.out;have Ax:=cellS84_0 Af;have Aw:=cellS84_1 Af;have At:=blk_frozen Af 0;have As:=blk_frozen Af 1;clear Af Ao))
  go_ret
  exact ⟨rf_,by repeat (first|(with_reducible first|exact Ac.out|apply IsS84.alloc|apply IsS84.drewN|apply IsS84.drew|apply IsS84.set_0|apply IsS84.set_1)|exact Ac.out),by repeat (first|(with_reducible first|exact HB.out|apply below_alloc|apply pw_below_drewN|apply below_drew1|refine below_set ?_ (IsS84.ge Ac.out))|exact HB.out),kx_⟩
 ·replace c3:=Bool.eq_false_iff.mpr c3
  subst c3
  have H1:(if Aa > (Ab.size:Int) then (some ((⟨#[]⟩:ByteArray),Ab,true)) else (if 0≤Aa then (if Aa≤(Ab.size:Int) then (some (Ab.extract 0 (Aa:Int).toNat,Ab.extract (Aa:Int).toNat Ab.size,false)) else (none)) else (none))) = some (r1,r2,r3):=by rw [if_neg (show ¬ (false = true) by decide)] at H;exact H
  clear H
  have H:=H1
  clear H1
  by_cases c6:Aa > (Ab.size:Int)
  ·rw [if_pos c6] at H
   have Ay:decide ((Ab.size:Int) < Aa) = true:=decide_eq_true c6
   clear c6
   simp only [Option.some.injEq,Prod.mk.injEq] at H
   obtain ⟨rfl,rfl,rfl⟩:=H
   go_enter Tryz.func56,Tryz.ntmps56
   go_wp2_with (first|((with_reducible refine gate_callee (f:=54) rfl ?_);refine gm_ (some 6) Tryz.func54 #[.pointer (some ⟨g,0,none⟩)] ?_;(with_reducible refine (record_reader_short.calls k g s0_0 s0_1 Aa Ab false w0 _ ?side1 ?side2 A2.out).mono ?_);(case side1=>repeat (first|(with_reducible first|exact Ac.out|apply IsS84.alloc|apply IsS84.drewN|apply IsS84.drew|apply IsS84.set_0|apply IsS84.set_1)|exact Ac.out));(case side2=>repeat (first|(with_reducible first|exact HB.out|apply below_alloc|apply pw_below_drewN|apply below_drew1|refine below_set ?_ (IsS84.ge Ac.out))|exact HB.out));rintro e w7 ⟨rfl,hi,hb,hk⟩;refine ⟨_,rfl,?_⟩;replace HK:=Aside0.mk (KeepBut.trans (kx_) hk (.inl rfl));replace Ac:=Aside0.mk hi;replace HB:=Aside0.mk hb;(try clear hb);(try clear hk);(try clear hi);obtain ⟨Ae,An⟩:=Ac.out;have Av:=cellS84_0 Ae;have Au:=cellS84_1 Ae;have Aq:=blk_frozen Ae 0;have Ap:=blk_frozen Ae 1;clear Ae An))
   go_ret
   exact ⟨rf_,by repeat (first|(with_reducible first|exact Ac.out|apply IsS84.alloc|apply IsS84.drewN|apply IsS84.drew|apply IsS84.set_0|apply IsS84.set_1)|exact Ac.out),by repeat (first|(with_reducible first|exact HB.out|apply below_alloc|apply pw_below_drewN|apply below_drew1|refine below_set ?_ (IsS84.ge Ac.out))|exact HB.out),kx_⟩
  ·rw [if_neg c6] at H
   have Ay:decide ((Ab.size:Int) < Aa) = false:=decide_eq_false c6
   clear c6
   by_cases c9:0≤Aa
   ·rw [if_pos c9] at H
    have Bf:=eq_true c9
    have Be:decide (0≤Aa) = true:=decide_eq_true c9
    clear c9
    by_cases Ah:Aa≤(Ab.size:Int)
    ·rw [if_pos Ah] at H
     have Bd:=eq_true Ah
     have Bc:decide (Aa≤(Ab.size:Int)) = true:=decide_eq_true Ah
     clear Ah
     have Bb:=eq_true (of_decide_eq_true (by first|(with_reducible assumption)|assumption):0≤Aa)
     have Ba:=eq_true (of_decide_eq_true (by first|(with_reducible assumption)|assumption):Aa≤(Ab.size:Int))
     simp only [Option.some.injEq,Prod.mk.injEq] at H
     obtain ⟨rfl,rfl,rfl⟩:=H
     go_enter Tryz.func56,Tryz.ntmps56
     go_wp2_with (first|((with_reducible refine gate_callee (f:=54) rfl ?_);refine gm_ (some 6) Tryz.func54 #[.pointer (some ⟨g,0,none⟩)] ?_;(with_reducible refine (record_reader_short.calls k g s0_0 s0_1 Aa Ab false w0 _ ?side1 ?side2 A2.out).mono ?_);(case side1=>repeat (first|(with_reducible first|exact Ac.out|apply IsS84.alloc|apply IsS84.drewN|apply IsS84.drew|apply IsS84.set_0|apply IsS84.set_1)|exact Ac.out));(case side2=>repeat (first|(with_reducible first|exact HB.out|apply below_alloc|apply pw_below_drewN|apply below_drew1|refine below_set ?_ (IsS84.ge Ac.out))|exact HB.out));rintro e Bg ⟨rfl,hi,hb,hk⟩;refine ⟨_,rfl,?_⟩;replace HK:=Aside0.mk (KeepBut.trans (kx_) hk (.inl rfl));replace Ac:=Aside0.mk hi;replace HB:=Aside0.mk hb;(try clear hb);(try clear hk);(try clear hi);obtain ⟨Ad,Ag⟩:=Ac.out;have Al:=cellS84_0 Ad;have Ak:=cellS84_1 Ad;have Aj:=blk_frozen Ad 0;have Ai:=blk_frozen Ad 1;clear Ad Ag))
     go_ret
     exact ⟨rf_,by repeat (first|(with_reducible first|exact Ac.out|apply IsS84.alloc|apply IsS84.drewN|apply IsS84.drew|apply IsS84.set_0|apply IsS84.set_1)|exact Ac.out),by repeat (first|(with_reducible first|exact HB.out|apply below_alloc|apply pw_below_drewN|apply below_drew1|refine below_set ?_ (IsS84.ge Ac.out))|exact HB.out),kx_⟩
    ·rw [if_neg Ah] at H
     exact absurd H sm_
   ·rw [if_neg c9] at H
    exact absurd H sm_
set_option maxHeartbeats 8000000
set_option maxRecDepth 100000
def record_reader_count.f (k:Nat) (s0_0:ByteArray) (s0_1:Bool) (a1:Int):Option (Int × ByteArray × Bool):=(record_reader_short.f k s0_0 s0_1).bind fun bt249=>(if bt249.1 > a1 then (some (0,bt249.2.1,true)) else (some (bt249.1,bt249.2.1,bt249.2.2)))
theorem record_reader_count.mono:∀ a0 a1 a2 k,LeO (record_reader_count.f k a0 a1 a2) (record_reader_count.f (k + 1) a0 a1 a2):=by intro a0 a1 a2 k;unfold record_reader_count.f;have:=@record_reader_short.mono;exact mn_
theorem record_reader_count.calls (k:Nat) (g:Nat) (s0_0:ByteArray) (s0_1:Bool) (a1:Int) (r1:Int) (r2:ByteArray) (r3:Bool) (w0 w:World) (hI:IsS84 w0 w g s0_0 s0_1) (hB:Below w0.heap.size w0 w) (h:record_reader_count.f k s0_0 s0_1 a1 = some (r1,r2,r3)) :
  Calls Tryz.prog 55 #[.pointer (some ⟨g,0,none⟩),.int .i64 a1] w fun e w'=>e = .returned (.int .i64 r1)∧IsS84 w0 w' g r2 r3∧Below w0.heap.size w0 w'∧KeepBut w w' g none:=by
 have Aa:=Aside0.mk hI
 have HK:=Aside0.mk (KeepBut.refl w g none)
 have HL:=Aside0.mk hB.size
 clear hI
 have Al:=Aside0.mk hB.size
 have HB:=Aside0.mk hB
 clear hB
 have H:=h;clear h;unfold record_reader_count.f at H
 obtain ⟨⟨Ab,Ae,Ad⟩,A3,H⟩:=bn_ H
 dsimp only at H
 by_cases c4:Ab > a1
 ·rw [if_pos c4] at H
  have Ak:decide (a1 < Ab) = true:=decide_eq_true c4
  clear c4
  simp only [Option.some.injEq,Prod.mk.injEq] at H
  obtain ⟨rfl,rfl,rfl⟩:=H
  go_enter Tryz.func55,Tryz.ntmps55
  go_wp2_with (first|((with_reducible refine gate_callee (f:=54) rfl ?_);refine gm_ (some 7) Tryz.func54 #[.pointer (some ⟨g,0,none⟩)] ?_;(with_reducible refine (record_reader_short.calls k g s0_0 s0_1 Ab Ae Ad w0 _ ?side1 ?side2 A3.out).mono ?_);(case side1=>repeat (first|(with_reducible first|exact Aa.out|apply IsS84.alloc|apply IsS84.drewN|apply IsS84.drew|apply IsS84.set_0|apply IsS84.set_1)|exact Aa.out));(case side2=>repeat (first|(with_reducible first|exact HB.out|apply below_alloc|apply pw_below_drewN|apply below_drew1|refine below_set ?_ (IsS84.ge Aa.out))|exact HB.out));rintro e w5 ⟨rfl,hi,hb,hk⟩;refine ⟨_,rfl,?_⟩;replace HK:=Aside0.mk (KeepBut.trans (kx_) hk (.inl rfl));replace Aa:=Aside0.mk hi;replace HB:=Aside0.mk hb;(try clear hb);(try clear hk);(try clear hi);obtain ⟨Ac,Af⟩:=Aa.out;have Aj:=cellS84_0 Ac;have Ai:=cellS84_1 Ac;have Ah:=blk_frozen Ac 0;have Ag:=blk_frozen Ac 1;clear Ac Af))
  go_ret
  exact ⟨rf_,by repeat (first|(with_reducible first|exact Aa.out|apply IsS84.alloc|apply IsS84.drewN|apply IsS84.drew|apply IsS84.set_0|apply IsS84.set_1)|exact Aa.out),by repeat (first|(with_reducible first|exact HB.out|apply below_alloc|apply pw_below_drewN|apply below_drew1|refine below_set ?_ (IsS84.ge Aa.out))|exact HB.out),kx_⟩
 ·rw [if_neg c4] at H
  have Ak:decide (a1 < Ab) = false:=decide_eq_false c4
  clear c4
  simp only [Option.some.injEq,Prod.mk.injEq] at H
  obtain ⟨rfl,rfl,rfl⟩:=H
  go_enter Tryz.func55,Tryz.ntmps55
  go_wp2_with (first|((with_reducible refine gate_callee (f:=54) rfl ?_);refine gm_ (some 7) Tryz.func54 #[.pointer (some ⟨g,0,none⟩)] ?_;(with_reducible refine (record_reader_short.calls k g s0_0 s0_1 Ab Ae Ad w0 _ ?side1 ?side2 A3.out).mono ?_);(case side1=>repeat (first|(with_reducible first|exact Aa.out|apply IsS84.alloc|apply IsS84.drewN|apply IsS84.drew|apply IsS84.set_0|apply IsS84.set_1)|exact Aa.out));(case side2=>repeat (first|(with_reducible first|exact HB.out|apply below_alloc|apply pw_below_drewN|apply below_drew1|refine below_set ?_ (IsS84.ge Aa.out))|exact HB.out));rintro e w7 ⟨rfl,hi,hb,hk⟩;refine ⟨_,rfl,?_⟩;replace HK:=Aside0.mk (KeepBut.trans (kx_) hk (.inl rfl));replace Aa:=Aside0.mk hi;replace HB:=Aside0.mk hb;(try clear hb);(try clear hk);(try clear hi)))
  go_ret
  exact ⟨rf_,by repeat (first|(with_reducible first|exact Aa.out|apply IsS84.alloc|apply IsS84.drewN|apply IsS84.drew|apply IsS84.set_0|apply IsS84.set_1)|exact Aa.out),by repeat (first|(with_reducible first|exact HB.out|apply below_alloc|apply pw_below_drewN|apply below_drew1|refine below_set ?_ (IsS84.ge Aa.out))|exact HB.out),kx_⟩
def abi_NoEscape.f (a:ByteArray):Option (ByteArray × Bool):=some (a,false)
theorem nr_ {P:Program} {ops:Array Oper} {rest:List Oper} {o:Oper} {a:Act} {Q:Exit→Act→World→Prop} {w W:World} {s t1:ByteArray} {t2:Bool} {N:Tmp} (A:Aside0 (abi_NoEscape.f s = some (t1,t2)))
  (h:∀ g w1,IsS84 w w1 g t1 t2→Below w.heap.size w w1→Below W.heap.size W w1→wpList P ops Q rest (a.put o.dst (.pointer (some ⟨g,0,none⟩))) w1)
  (hd:o.dst = some N:=by rfl) (hgd:o.guard = none:=by rfl)
  (hrun:(execOp a.eval o).run P W = .ok (.value (.pointer (some ⟨W.heap.size,0,none⟩))) (W.alloc (.cells #[.string s,.bool false] 84 (0,0))):=by first|(go_simp;done)|(go_simp;rfl))
  (hb:Below w.heap.size w W:=by repeat (first|(with_reducible first|exact Aside0.out (by assumption)|apply below_alloc|apply pw_below_drewN|apply below_drew1|refine below_set ?_ (Aside0.out (by assumption)))|exact Aside0.out (by assumption))):wpList P ops Q (o :: rest) a W:=by
 obtain ⟨rfl,rfl⟩:=Prod.mk.inj (Option.some.inj A.out)
 exact box_event hgd hd hrun fun g hg w1 Aa k=>h g w1 ⟨Aa,by rw [hg];exact below_size hb⟩ (below_step hb k) k
set_option maxHeartbeats 8000000
set_option maxRecDepth 100000
mutual
def record_Decode.l0:Nat→ByteArray→Int→Int→ByteArray→Bool→Int→Int→Int→List Int→Option (Int × Int × Int × List Int × List ByteArray × List ByteArray × Int)
 | 0,_,_,_,_,_,_,_,_,_=>none
 | k + 1,x0,x20,x21,x259000,x259001,x269000,x269001,x269002,x269003=>if x21 < x20 then ((record_reader_short.f k x259000 x259001).bind fun bt272=>(if (Go.bits .and .i64 bt272.1 1) = 1 then (if x269003.length < 17592186044416 then (record_Decode.l0 k x0 x20 (wrap64 (x21 + 1)) bt272.2.1 bt272.2.2 x269000 x269001 x269002 (x269003 ++ [wrap64 (Int.tdiv (wrap64 ((wrap64 (-bt272.1)) - 1)) 2)])) else (none)) else (if x269003.length < 17592186044416 then (record_Decode.l0 k x0 x20 (wrap64 (x21 + 1)) bt272.2.1 bt272.2.2 x269000 x269001 x269002 (x269003 ++ [wrap64 (Int.tdiv bt272.1 2)])) else (none)))) else ((record_reader_count.f k x259000 x259001 64).bind fun bt281=>(record_Decode.l1 k x0 bt281.1 0 bt281.2.1 bt281.2.2 x269000 x269001 x269002 x269003 ([]:List ByteArray)))
def record_Decode.l1:Nat→ByteArray→Int→Int→ByteArray→Bool→Int→Int→Int→List Int→List ByteArray→Option (Int × Int × Int × List Int × List ByteArray × List ByteArray × Int)
 | 0,_,_,_,_,_,_,_,_,_,_=>none
 | k + 1,x0,x40,x41,x259000,x259001,x269000,x269001,x269002,x269003,x269004=>if x41 < x40 then ((record_reader_bytes.f k x259000 x259001).bind fun bt284=>(if x269004.length < 8796093022208 then (record_Decode.l1 k x0 x40 (wrap64 (x41 + 1)) bt284.2.1 bt284.2.2 x269000 x269001 x269002 x269003 (x269004 ++ [bt284.1])) else (none))) else ((record_reader_count.f k x259000 x259001 16).bind fun bt290=>(record_Decode.l2 k x0 bt290.1 0 bt290.2.1 bt290.2.2 x269000 x269001 x269002 x269003 x269004 ([]:List ByteArray)))
def record_Decode.l2:Nat→ByteArray→Int→Int→ByteArray→Bool→Int→Int→Int→List Int→List ByteArray→List ByteArray→Option (Int × Int × Int × List Int × List ByteArray × List ByteArray × Int)
 | 0,_,_,_,_,_,_,_,_,_,_,_=>none
 | k + 1,x0,x52,x53,x259000,x259001,x269000,x269001,x269002,x269003,x269004,x269005=>if x53 < x52 then ((record_reader_bytes.f k x259000 x259001).bind fun bt293=>(if x269005.length < 8796093022208 then (record_Decode.l2 k x0 x52 (wrap64 (x53 + 1)) bt293.2.1 bt293.2.2 x269000 x269001 x269002 x269003 x269004 (x269005 ++ [bt293.1])) else (none))) else ((record_Encode.f k x269000 x269001 x269002 x269003 x269004 x269005).bind fun bt299=>(if x259001 = true then (some (0,0,0,([]:List Int),([]:List ByteArray),([]:List ByteArray),13)) else (if x259000.toList = ([]:List UInt8) then (if bt299.2 = 0 then (if bt299.1.toList = x0.toList then (some (x269000,x269001,x269002,x269003,x269004,x269005,0)) else (some (0,0,0,([]:List Int),([]:List ByteArray),([]:List ByteArray),13))) else (some (0,0,0,([]:List Int),([]:List ByteArray),([]:List ByteArray),13))) else (some (0,0,0,([]:List Int),([]:List ByteArray),([]:List ByteArray),13)))))
end
def record_Decode.f (k:Nat) (a0:ByteArray):Option (Int × Int × Int × List Int × List ByteArray × List ByteArray × Int):=(abi_NoEscape.f a0).bind fun bt256=>((record_reader_short.f k bt256.1 bt256.2).bind fun bt259=>((record_reader_short.f k bt259.2.1 bt259.2.2).bind fun bt262=>((record_reader_short.f k bt262.2.1 bt262.2.2).bind fun bt265=>((record_reader_count.f k bt265.2.1 bt265.2.2 64).bind fun bt269=>(record_Decode.l0 k a0 bt269.1 0 bt269.2.1 bt269.2.2 bt259.1 bt262.1 bt265.1 ([]:List Int))))))
theorem record_Decode.mono_l:∀ k,(∀ y0 y1 y2 y3 y4 y5 y6 y7 y8,LeO (record_Decode.l0 k y0 y1 y2 y3 y4 y5 y6 y7 y8) (record_Decode.l0 (k + 1) y0 y1 y2 y3 y4 y5 y6 y7 y8))∧(∀ y0 y1 y2 y3 y4 y5 y6 y7 y8 y9,LeO (record_Decode.l1 k y0 y1 y2 y3 y4 y5 y6 y7 y8 y9) (record_Decode.l1 (k + 1) y0 y1 y2 y3 y4 y5 y6 y7 y8 y9))∧(∀ y0 y1 y2 y3 y4 y5 y6 y7 y8 y9 y10,LeO (record_Decode.l2 k y0 y1 y2 y3 y4 y5 y6 y7 y8 y9 y10) (record_Decode.l2 (k + 1) y0 y1 y2 y3 y4 y5 y6 y7 y8 y9 y10))
 | 0=>⟨fun _ _ _ _ _ _ _ _ _ r h=>by simp [record_Decode.l0] at h,fun _ _ _ _ _ _ _ _ _ _ r h=>by simp [record_Decode.l1] at h,fun _ _ _ _ _ _ _ _ _ _ _ r h=>by simp [record_Decode.l2] at h⟩
 | k + 1=>by
  obtain ⟨ih0,ih1,ih2⟩:=record_Decode.mono_l k
  refine ⟨?_,?_,?_⟩
  ·intro y0 y1 y2 y3 y4 y5 y6 y7 y8
   unfold record_Decode.l0
   repeat' first
   | (with_reducible exact ih0 _ _ _ _ _ _ _ _ _)
   | (with_reducible exact ih1 _ _ _ _ _ _ _ _ _ _)
   | (with_reducible exact ih2 _ _ _ _ _ _ _ _ _ _ _)
   | (with_reducible exact record_Encode.mono _ _ _ _ _ _ _)
   | (with_reducible exact record_reader_bytes.mono _ _ _)
   | (with_reducible exact record_reader_count.mono _ _ _ _)
   | (with_reducible exact record_reader_short.mono _ _ _)
   | (with_reducible exact LeO.refl _)
   | (with_reducible exact LeO.none _)
   | (with_reducible refine LeO.ite ?_ ?_)
   | (with_reducible refine LeO.bind ?_ (fun _=>?_))
   | exact ih0 _ _ _ _ _ _ _ _ _
   | exact ih1 _ _ _ _ _ _ _ _ _ _
   | exact ih2 _ _ _ _ _ _ _ _ _ _ _
   | exact record_Encode.mono _ _ _ _ _ _ _
   | exact record_reader_bytes.mono _ _ _
   | exact record_reader_count.mono _ _ _ _
   | exact record_reader_short.mono _ _ _
   | exact LeO.none _
   | refine LeO.ite ?_ ?_
   | refine LeO.bind ?_ (fun _=>?_)
  ·intro y0 y1 y2 y3 y4 y5 y6 y7 y8 y9
   unfold record_Decode.l1
   repeat' first
   | (with_reducible exact ih0 _ _ _ _ _ _ _ _ _)
   | (with_reducible exact ih1 _ _ _ _ _ _ _ _ _ _)
   | (with_reducible exact ih2 _ _ _ _ _ _ _ _ _ _ _)
   | (with_reducible exact record_Encode.mono _ _ _ _ _ _ _)
   | (with_reducible exact record_reader_bytes.mono _ _ _)
   | (with_reducible exact record_reader_count.mono _ _ _ _)
   | (with_reducible exact record_reader_short.mono _ _ _)
   | (with_reducible exact LeO.refl _)
   | (with_reducible exact LeO.none _)
   | (with_reducible refine LeO.ite ?_ ?_)
   | (with_reducible refine LeO.bind ?_ (fun _=>?_))
   | exact ih0 _ _ _ _ _ _ _ _ _
   | exact ih1 _ _ _ _ _ _ _ _ _ _
   | exact ih2 _ _ _ _ _ _ _ _ _ _ _
   | exact record_Encode.mono _ _ _ _ _ _ _
   | exact record_reader_bytes.mono _ _ _
   | exact record_reader_count.mono _ _ _ _
   | exact record_reader_short.mono _ _ _
   | exact LeO.none _
   | refine LeO.ite ?_ ?_
   | refine LeO.bind ?_ (fun _=>?_)
  ·intro y0 y1 y2 y3 y4 y5 y6 y7 y8 y9 y10
   unfold record_Decode.l2
   repeat' first
   | (with_reducible exact ih0 _ _ _ _ _ _ _ _ _)
   | (with_reducible exact ih1 _ _ _ _ _ _ _ _ _ _)
   | (with_reducible exact ih2 _ _ _ _ _ _ _ _ _ _ _)
   | (with_reducible exact record_Encode.mono _ _ _ _ _ _ _)
   | (with_reducible exact record_reader_bytes.mono _ _ _)
   | (with_reducible exact record_reader_count.mono _ _ _ _)
   | (with_reducible exact record_reader_short.mono _ _ _)
   | (with_reducible exact LeO.refl _)
   | (with_reducible exact LeO.none _)
   | (with_reducible refine LeO.ite ?_ ?_)
   | (with_reducible refine LeO.bind ?_ (fun _=>?_))
   | exact ih0 _ _ _ _ _ _ _ _ _
   | exact ih1 _ _ _ _ _ _ _ _ _ _
   | exact ih2 _ _ _ _ _ _ _ _ _ _ _
   | exact record_Encode.mono _ _ _ _ _ _ _
   | exact record_reader_bytes.mono _ _ _
   | exact record_reader_count.mono _ _ _ _
   | exact record_reader_short.mono _ _ _
   | exact LeO.none _
   | refine LeO.ite ?_ ?_
   | refine LeO.bind ?_ (fun _=>?_)
theorem record_Decode.mono:∀ a0 k,LeO (record_Decode.f k a0) (record_Decode.f (k + 1) a0):=by
 intro a0 k
 obtain ⟨Ac,Ab,Aa⟩:=record_Decode.mono_l k
 unfold record_Decode.f
 repeat' first
   | (with_reducible exact Ac _ _ _ _ _ _ _ _ _)
   | (with_reducible exact Ab _ _ _ _ _ _ _ _ _ _)
   | (with_reducible exact Aa _ _ _ _ _ _ _ _ _ _ _)
   | (with_reducible exact record_Encode.mono _ _ _ _ _ _ _)
   | (with_reducible exact record_reader_bytes.mono _ _ _)
   | (with_reducible exact record_reader_count.mono _ _ _ _)
   | (with_reducible exact record_reader_short.mono _ _ _)
   | (with_reducible exact LeO.refl _)
   | (with_reducible exact LeO.none _)
   | (with_reducible refine LeO.ite ?_ ?_)
   | (with_reducible refine LeO.bind ?_ (fun _=>?_))
   | exact Ac _ _ _ _ _ _ _ _ _
   | exact Ab _ _ _ _ _ _ _ _ _ _
   | exact Aa _ _ _ _ _ _ _ _ _ _ _
   | exact record_Encode.mono _ _ _ _ _ _ _
   | exact record_reader_bytes.mono _ _ _
   | exact record_reader_count.mono _ _ _ _
   | exact record_reader_short.mono _ _ _
   | exact LeO.none _
   | refine LeO.ite ?_ ?_
   | refine LeO.bind ?_ (fun _=>?_)
def record_Decode.T12:Bool × List (List Nat × List Nat):=(true,[([],[]),([0],[0]),([],[]),([2],[2]),([3],[3]),([1,4,3],[1,4]),([0,1,2,3,4,5],[]),([6,5,5,0,1,2,3,4,5],[5,6])])
def record_Decode.B12:List Nat:=[0,1,0,4,12,31,63,127]
theorem record_Decode.tab12:rtab .any (opsOf Tryz.f15 12) = record_Decode.T12:=by kernel_rfl
theorem record_Decode.bits12:waitsOk record_Decode.T12.2 record_Decode.B12 = true:=by kernel_rfl
def record_Decode.T16:Bool × List (List Nat × List Nat):=(true,[([],[]),([0],[0]),([],[]),([2],[2]),([3],[3]),([1,4,3],[1,4]),([0,1,2,3,4,5],[]),([6,5,5,0,1,2,3,4,5],[5,6])])
def record_Decode.B16:List Nat:=[0,1,0,4,12,31,63,127]
theorem record_Decode.tab16:rtab .any (opsOf Tryz.f15 16) = record_Decode.T16:=by kernel_rfl
theorem record_Decode.bits16:waitsOk record_Decode.T16.2 record_Decode.B16 = true:=by kernel_rfl
theorem record_Decode.calls (k:Nat) (a0:ByteArray) (r1:Int) (r2:Int) (r3:Int) (r4:List Int) (r5:List ByteArray) (r6:List ByteArray) (r7:Int) (w:World) (hL:LaidW w) (h:record_Decode.f k a0 = some (r1,r2,r3,r4,r5,r6,r7)) :
  Calls Tryz.prog 15 #[.string a0] w fun e w'=>∃ v3_ v4_ v5_:Value,e = .returned (.tuple #[.agg #[.int .i64 r1,.int .i64 r2,.int .i64 r3,v3_,v4_,v5_],.int .i64 r7])∧Kd.R (Kd.int .i64) 3 w' w.heap.size (fun _=>True) v3_ r4∧Kd.R Kd.string 65 w' w.heap.size (fun _=>True) v4_ r5∧Kd.R Kd.string 9 w' w.heap.size (fun _=>True) v5_ r6∧Below w.heap.size w w':=by
 have So:=Tryz.underlying26
 have HB:=Aside0.mk (Below.refl w.heap.size w)
 have HLW:=Aside0.mk hL
 clear hL
 have H:=h;clear h;unfold record_Decode.f at H
 obtain ⟨⟨Oo,Om⟩,A2,H⟩:=bn_ H
 dsimp only at H
 obtain ⟨⟨Aw,Ef,Ee⟩,A3,H⟩:=bn_ H
 dsimp only at H
 obtain ⟨⟨Av,Ed,Ec⟩,A4,H⟩:=bn_ H
 dsimp only at H
 obtain ⟨⟨Au,Cy,Cx⟩,A5,H⟩:=bn_ H
 dsimp only at H
 obtain ⟨⟨Ci,Eb,Ea⟩,A6,H⟩:=bn_ H
 dsimp only at H
 have H':=Aside0.mk H
 clear H
 go_enter Tryz.func15,Tryz.ntmps15
 go_wp2_with (first|((with_reducible refine gate_dst (N:=2) rfl ?_);refine bv_ #[.int .i64 0,.int .i64 0,.int .i64 0,.slice none 0 0,.slice none 0 0,.slice none 0 0] 26 ?_;clear HB;intro Al hg w7 Ak Am hb HB;clear hb hg)|((with_reducible refine gate_dst (N:=11) rfl ?_);refine nr_ A2 ?_;intro Ba w8 hi hb Oe;have Aa:=Aside0.mk hi;have Ad:=Aside0.mk (IsS84.ne_blk hi (blk_below (g:=Al) (o:=.cells #[.int .i64 0,.int .i64 0,.int .i64 0,.slice none 0 0,.slice none 0 0,.slice none 0 0] 26 (0,0)) bk_ Oe) de_);have Aq:=Aside0.mk (Ne.symm (IsS84.ne_blk hi (blk_below (g:=Al) (o:=.cells #[.int .i64 0,.int .i64 0,.int .i64 0,.slice none 0 0,.slice none 0 0,.slice none 0 0] 26 (0,0)) bk_ Oe) de_));replace Ak:=Aside0.mk (blk_below (g:=Al) (o:=.cells #[.int .i64 0,.int .i64 0,.int .i64 0,.slice none 0 0,.slice none 0 0,.slice none 0 0] 26 (0,0)) bk_ Oe);replace HB:=Aside0.mk hb;(try clear hb);(try clear Oe);(try clear hi))|((with_reducible refine gate_callee (f:=54) rfl ?_);refine gm_ (some 13) Tryz.func54 #[.pointer (some ⟨Ba,0,none⟩)] ?_;(with_reducible refine (record_reader_short.calls k Ba Oo Om Aw Ef Ee w _ ?side1 ?side2 A3.out).mono ?_);(case side1=>repeat (first|(with_reducible first|exact Aa.out|apply IsS84.alloc|apply IsS84.drewN|apply IsS84.drew|apply IsS84.set_0|apply IsS84.set_1|refine IsS84.far ?_ Ad.out _)|exact Aa.out));(case side2=>repeat (first|(with_reducible first|exact HB.out|apply below_alloc|apply pw_below_drewN|apply below_drew1|refine below_set ?_ (IsS84.ge Aa.out)|refine below_set ?_ Am.out)|exact HB.out));rintro e w9 ⟨rfl,hi,hb,hk⟩;refine ⟨_,rfl,?_⟩;replace Ak:=Aside0.mk (KeepBut.blk hk (g':=Al) (o:=.cells #[.int .i64 0,.int .i64 0,.int .i64 0,.slice none 0 0,.slice none 0 0,.slice none 0 0] 26 (0,0)) bk_ Aq.out sm_);replace Aa:=Aside0.mk hi;replace HB:=Aside0.mk hb;(try clear hb);(try clear hk);(try clear hi))|((with_reducible refine gate_callee (f:=54) rfl ?_);refine gm_ (some 15) Tryz.func54 #[.pointer (some ⟨Ba,0,none⟩)] ?_;(with_reducible refine (record_reader_short.calls k Ba Ef Ee Av Ed Ec w _ ?side1 ?side2 A4.out).mono ?_);(case side1=>repeat (first|(with_reducible first|exact Aa.out|apply IsS84.alloc|apply IsS84.drewN|apply IsS84.drew|apply IsS84.set_0|apply IsS84.set_1|refine IsS84.far ?_ Ad.out _)|exact Aa.out));(case side2=>repeat (first|(with_reducible first|exact HB.out|apply below_alloc|apply pw_below_drewN|apply below_drew1|refine below_set ?_ (IsS84.ge Aa.out)|refine below_set ?_ Am.out)|exact HB.out));rintro e Tm ⟨rfl,hi,hb,hk⟩;refine ⟨_,rfl,?_⟩;replace Ak:=Aside0.mk (KeepBut.blk hk (g':=Al) (o:=.cells #[.int .i64 0,.int .i64 0,.int .i64 0,.slice none 0 0,.slice none 0 0,.slice none 0 0] 26 (0,0)) bk_ Aq.out sm_);replace Aa:=Aside0.mk hi;replace HB:=Aside0.mk hb;(try clear hb);(try clear hk);(try clear hi))|((with_reducible refine gate_callee (f:=54) rfl ?_);refine gm_ (some 17) Tryz.func54 #[.pointer (some ⟨Ba,0,none⟩)] ?_;(with_reducible refine (record_reader_short.calls k Ba Ed Ec Au Cy Cx w _ ?side1 ?side2 A5.out).mono ?_);(case side1=>repeat (first|(with_reducible first|exact Aa.out|apply IsS84.alloc|apply IsS84.drewN|apply IsS84.drew|apply IsS84.set_0|apply IsS84.set_1|refine IsS84.far ?_ Ad.out _)|exact Aa.out));(case side2=>repeat (first|(with_reducible first|exact HB.out|apply below_alloc|apply pw_below_drewN|apply below_drew1|refine below_set ?_ (IsS84.ge Aa.out)|refine below_set ?_ Am.out)|exact HB.out));rintro e Tl ⟨rfl,hi,hb,hk⟩;refine ⟨_,rfl,?_⟩;replace Ak:=Aside0.mk (KeepBut.blk hk (g':=Al) (o:=.cells #[.int .i64 0,.int .i64 0,.int .i64 0,.slice none 0 0,.slice none 0 0,.slice none 0 0] 26 (0,0)) bk_ Aq.out sm_);replace Aa:=Aside0.mk hi;replace HB:=Aside0.mk hb;(try clear hb);(try clear hk);(try clear hi))|((with_reducible refine gate_dst (N:=5) rfl ?_);refine box_event ?hg (N:=5) ?hd (cs:=#[.int .i64 0,.int .i64 0,.int .i64 0,.slice none 0 0,.slice none 0 0,.slice none 0 0]) (t:=26) ?hr ?_;(case hd=>rfl);(case hg=>rfl);(case hr=>first|(go_simp;done)|(go_simp;rfl));intro An hg Tk Gc hb;have Ah:=Aside0.mk Gc;have Ao:=Aside0.mk ((by rw [hg];exact (below_size (by repeat (first|(with_reducible first|exact HB.out|apply below_alloc|apply pw_below_drewN|apply below_drew1|refine below_set ?_ (IsS84.ge Aa.out)|refine below_set ?_ Am.out)|exact HB.out))):w.heap.size≤An));have Ao:=Aside0.mk ((by rw [hg];exact (below_size (by repeat (first|(with_reducible first|exact HB.out|apply below_alloc|apply pw_below_drewN|apply below_drew1|refine below_set ?_ (IsS84.ge Aa.out)|refine below_set ?_ Am.out)|exact HB.out))):w.heap.size≤An));have Ay:=nl_ Ak hg;have Ax:=ng_ Ak hg;have Ae:=Aside0.mk ((by rw [hg];exact Nat.ne_of_lt (IsS84.lt (show IsS84 w _ Ba Cy Cx from by repeat (first|(with_reducible first|exact Aa.out|apply IsS84.alloc|apply IsS84.drewN|apply IsS84.drew|apply IsS84.set_0|apply IsS84.set_1|refine IsS84.far ?_ Ad.out _)|exact Aa.out))):Ba≠An));have Ap:=Aside0.mk ((by rw [hg];exact Nat.ne_of_gt (IsS84.lt (show IsS84 w _ Ba Cy Cx from by repeat (first|(with_reducible first|exact Aa.out|apply IsS84.alloc|apply IsS84.drewN|apply IsS84.drew|apply IsS84.set_0|apply IsS84.set_1|refine IsS84.far ?_ Ad.out _)|exact Aa.out))):An≠Ba));replace Ak:=bb_ Ak hb;replace Aa:=Aside0.mk (IsS84.below (by repeat (first|(with_reducible first|exact Aa.out|apply IsS84.alloc|apply IsS84.drewN|apply IsS84.drew|apply IsS84.set_0|apply IsS84.set_1|refine IsS84.far ?_ Ad.out _)|exact Aa.out)) hb);replace HB:=Aside0.mk (below_step (by repeat (first|(with_reducible first|exact HB.out|apply below_alloc|apply pw_below_drewN|apply below_drew1|refine below_set ?_ (IsS84.ge Aa.out)|refine below_set ?_ Am.out)|exact HB.out)) hb);clear hb Gc hg;have Rx:=Ax.out;have Rd:=Ay.out;have Rv:=Ap.out;have Rc:=Ae.out;obtain ⟨Cc,Cb,Ca,Bz,By,Bx,Bw,Bv,Bu,Bt,Br,Bq⟩:=c6_ Ah)|((with_reducible refine gate_callee (f:=55) rfl ?_);refine gm_ (some 20) Tryz.func55 #[.pointer (some ⟨Ba,0,none⟩),.int .i64 64] ?_;(with_reducible refine (record_reader_count.calls k Ba Cy Cx 64 Ci Eb Ea w _ ?side1 ?side2 A6.out).mono ?_);(case side1=>repeat (first|(with_reducible first|exact Aa.out|apply IsS84.alloc|apply IsS84.drewN|apply IsS84.drew|apply IsS84.set_0|apply IsS84.set_1|refine IsS84.far ?_ Ad.out _|refine IsS84.far ?_ Ae.out _)|exact Aa.out));(case side2=>repeat (first|(with_reducible first|exact HB.out|apply below_alloc|apply pw_below_drewN|apply below_drew1|refine below_set ?_ (IsS84.ge Aa.out)|refine below_set ?_ Am.out|refine below_set ?_ Ao.out)|exact HB.out));rintro e Tj ⟨rfl,hi,hb,hk⟩;refine ⟨_,rfl,?_⟩;replace Ak:=Aside0.mk (KeepBut.blk hk (g':=Al) (o:=.cells #[.int .i64 0,.int .i64 0,.int .i64 0,.slice none 0 0,.slice none 0 0,.slice none 0 0] 26 (0,0)) bk_ Aq.out sm_);replace Ah:=Aside0.mk (KeepBut.blk hk (g':=An) (o:=.cells #[.int .i64 Aw,.int .i64 Av,.int .i64 Au,.slice none 0 0,.slice none 0 0,.slice none 0 0] 26 (0,0)) bk_ Ap.out sm_);replace Aa:=Aside0.mk hi;replace HB:=Aside0.mk hb;(try clear hb);(try clear hk);(try clear hi)))
 go_loopg [21] k (fun kq Sn w'=>∃ (Bj:Int) (Bf:ByteArray) (Bd:Bool) (Ag:List Int) (As:Value),Sn = .int .i64 Bj∧Aside0 (record_Decode.l0 kq a0 Ci Bj Bf Bd Aw Av Au Ag = some (r1,r2,r3,r4,r5,r6,r7))∧Aside0 (kq≤k)∧Aside0 (Kd.R (Kd.int .i64) 3 w' w.heap.size (fun _=>True) As Ag)∧Aside0 (w'.heap[Al]? = some (.cells #[.int .i64 0,.int .i64 0,.int .i64 0,(.slice none 0 0),(.slice none 0 0),(.slice none 0 0)] 26 (0,0)))∧Aside0 (w'.heap[An]? = some (.cells #[.int .i64 Aw,.int .i64 Av,.int .i64 Au,As,(.slice none 0 0),(.slice none 0 0)] 26 (0,0)))∧Aside0 (IsS84 w w' Ba Bf Bd)∧Aside0 (Below w.heap.size w w'))
 case atStart=>exact ⟨(0),(Eb),(Ea),(([]:List Int)),(.slice none 0 0),rg_,H',⟨Nat.le_refl _⟩,⟨by first|exact Kd.R_nil _ _ _ _ _|exact Kd.N_nil _ _ _ _ _|exact Kd.V_nil _ _ _ _ _|exact Kd.Q_nil _ _ _ _ _|exact Kd.S_nil _ _ _ _ _⟩,⟨bk_⟩,⟨bk_⟩,⟨by repeat (first|(with_reducible first|exact Aa.out|apply IsS84.alloc|apply IsS84.drewN|apply IsS84.drew|apply IsS84.set_0|apply IsS84.set_1|refine IsS84.far ?_ Ad.out _|refine IsS84.far ?_ Ae.out _)|exact Aa.out)⟩,⟨by repeat (first|(with_reducible first|exact HB.out|apply below_alloc|apply pw_below_drewN|apply below_drew1|refine below_set ?_ (IsS84.ge Aa.out)|refine below_set ?_ Am.out|refine below_set ?_ Ao.out)|exact HB.out)⟩⟩
 case round =>
  clear H'
  try clear Cc
  try clear Cb
  try clear Ca
  try clear Bz
  try clear By
  try clear Bx
  try clear Bw
  try clear Bv
  try clear Bu
  try clear Bt
  try clear Br
  try clear Bq
  obtain ⟨Bj,Bf,Bd,Ag,As,rfl,HA,Di,Ab,Ak,Ah,Aa,HB⟩:=hrel
  cases gk with
  | zero=>exact absurd HA.out (by simp [record_Decode.l0])
  | succ k1 =>
   have H:=HA.out
   clear HA
   simp only [record_Decode.l0] at H
   by_cases Dd:Bj < Ci
   ·rw [if_pos Dd] at H
    have Cr:decide (Bj < Ci) = true:=decide_eq_true Dd
    clear Dd
    obtain ⟨⟨Bk,Cn,Cm⟩,Sb,H⟩:=bn_ H
    dsimp only at H
    by_cases Dt:(Go.bits .and .i64 Bk 1) = 1
    ·rw [if_pos Dt] at H
     have Gw:((Go.bits .and .i64 Bk 1) == 1) = true:=beq_iff_eq.mpr Dt
     have Gv:((Go.bits .and .i64 Bk 1) != 1) = false:=bne_eq_false_iff_eq.mpr Dt
     clear Dt
     by_cases Oj:Ag.length < 17592186044416
     ·rw [if_pos Oj] at H
      have Hf:=Aside0.mk Oj
      clear Oj
      obtain ⟨y275,hy275⟩:∃ y_:List Int,y_ = (Ag ++ [wrap64 (Int.tdiv (wrap64 ((wrap64 (-Bk)) - 1)) 2)]):=⟨_,rfl⟩
      replace H:(record_Decode.l0 k1 a0 Ci (wrap64 (Bj + 1)) Cn Cm Aw Av Au y275) = some (r1,r2,r3,r4,r5,r6,r7):=by first|(rw [hy275];with_reducible exact H)|(have Cj:=(Option.bind_some _ _).symm.trans H;rw [hy275];with_reducible exact Cj)|(have Cj:=(Option.bind_some _ _).symm.trans H;with_reducible exact Cj)|with_reducible exact H|(rw [hy275];exact H)|exact H
      have Ha:=Aside0.mk hy275
      clear hy275
      have H':=Aside0.mk H
      clear H
      go_wp2_with (first|((with_reducible refine gate_callee (f:=54) rfl ?_);refine gm_ (some 24) Tryz.func54 #[.pointer (some ⟨Ba,0,none⟩)] ?_;(with_reducible refine (record_reader_short.calls k1 Ba Bf Bd Bk Cn Cm w _ ?side1 ?side2 Sb.out).mono ?_);(case side1=>repeat (first|(with_reducible first|exact Aa.out|apply IsS84.alloc|apply IsS84.drewN|apply IsS84.drew|apply IsS84.set_0|apply IsS84.set_1|refine IsS84.far ?_ Ad.out _|refine IsS84.far ?_ Ae.out _)|exact Aa.out));(case side2=>repeat (first|(with_reducible first|exact HB.out|apply below_alloc|apply pw_below_drewN|apply below_drew1|refine below_set ?_ (IsS84.ge Aa.out)|refine below_set ?_ Am.out|refine below_set ?_ Ao.out)|exact HB.out));rintro e Ti ⟨rfl,hi,hb,hk⟩;refine ⟨_,rfl,?_⟩;replace Ab:=Aside0.mk (Kd.R_mono (Kd.R_keep (IsS84.apart (show IsS84 w _ Ba Bf Bd from by repeat (first|(with_reducible first|exact Aa.out|apply IsS84.alloc|apply IsS84.drewN|apply IsS84.drew|apply IsS84.set_0|apply IsS84.set_1|refine IsS84.far ?_ Ad.out _|refine IsS84.far ?_ Ae.out _)|exact Aa.out)) (by (with_reducible repeat (first|apply Kd.R_alloc|apply Kd.R_drewN|apply Kd.R_drew));exact Ab.out) de_) hk (fun _ h=>h.2)) (fun _ h=>h.1));replace Ak:=Aside0.mk (KeepBut.blk hk (g':=Al) (o:=.cells #[.int .i64 0,.int .i64 0,.int .i64 0,.slice none 0 0,.slice none 0 0,.slice none 0 0] 26 (0,0)) bk_ Aq.out sm_);replace Ah:=Aside0.mk (KeepBut.blk hk (g':=An) (o:=.cells #[.int .i64 Aw,.int .i64 Av,.int .i64 Au,As,.slice none 0 0,.slice none 0 0] 26 (0,0)) bk_ Ap.out sm_);replace Aa:=Aside0.mk hi;replace HB:=Aside0.mk hb;(try clear hb);(try clear hk);(try clear hi);have Ru:=Ax.out;have Rb:=Ay.out;have Rs:=Ap.out;have Ra:=Ae.out;obtain ⟨Od,Oc,Ob,Oa,Nz,Ny,Kx,Kw,Kv,Ku,Kt,Ks⟩:=c6_ Ah)|((with_reducible refine gate_builtin (b:=.append) (xs:=#[.tmp 32,.tmp 35]) rfl ?_);at_builtin;refine Kd.R_append (Kd.int .i64) (w0:=w) w.heap.size rfl (.tmp 32) (.tmp 35) 22 3 (.int .i64 0) 8 rfl Tryz.underlying22 info3 rfl de_ (by omega) As Ag (wrap64 (Int.tdiv (wrap64 ((wrap64 (-Bk)) - 1)) 2)) [.int .i64 (wrap64 (Int.tdiv (wrap64 ((wrap64 (-Bk)) - 1)) 2))] (fun _=>True) (fun _=>False) rfl rfl ?aP (fun _ hk=>hk.elim) ?aF ?aO ?aB ?aS ?aL ?_;(case aP=>exact rfl);(case aB=>exact (by repeat (first|(with_reducible first|exact HB.out|apply below_alloc|apply pw_below_drewN|apply below_drew1|refine below_set ?_ (IsS84.ge Aa.out)|refine below_set ?_ Am.out|refine below_set ?_ Ao.out)|exact HB.out)));(case aF=>exact (fun _ _=>trivial));(case aO=>exact (by (with_reducible repeat (first|apply Kd.R_alloc|apply Kd.R_drewN|apply Kd.R_drew));exact Ab.out));(case aS=>exact (below_size (by repeat (first|(with_reducible first|exact HB.out|apply below_alloc|apply pw_below_drewN|apply below_drew1|refine below_set ?_ (IsS84.ge Aa.out)|refine below_set ?_ Am.out|refine below_set ?_ Ao.out)|exact HB.out))));(case aL=>have:=Hf.out;omega);intro Sl Th ho hb hg hat;rw [← Ha.out] at ho;have Dh:=Aside0.mk ho;replace Ak:=Aside0.mk (blk_grown (g:=Al) (o:=.cells #[.int .i64 0,.int .i64 0,.int .i64 0,.slice none 0 0,.slice none 0 0,.slice none 0 0] 26 (0,0)) bk_ hg (Kd.R_ne Ab.out Ak.out de_));replace Ah:=Aside0.mk (blk_grown (g:=An) (o:=.cells #[.int .i64 Aw,.int .i64 Av,.int .i64 Au,As,.slice none 0 0,.slice none 0 0] 26 (0,0)) bk_ hg (Kd.R_ne Ab.out Ah.out de_));replace Aa:=Aside0.mk (IsS84.grown (by repeat (first|(with_reducible first|exact Aa.out|apply IsS84.alloc|apply IsS84.drewN|apply IsS84.drew|apply IsS84.set_0|apply IsS84.set_1|refine IsS84.far ?_ Ad.out _|refine IsS84.far ?_ Ae.out _)|exact Aa.out)) hg (IsS84.own_ne Aa.out Ab.out de_));replace HB:=Aside0.mk hb;clear Ab;clear ho hb hg hat;obtain ⟨Hh,Gj,Ps⟩:=Kd.R_slice Dh.out;subst Ps;obtain ⟨Nx,Nw,Nt,Ns,Nr,Np,Kr,Kq,Kp,Ko,Kn,Km⟩:=c6_ Ah))
      go_roundg k1
      case measure=>have:=Di.out;omega
      case rel=>exact ⟨(wrap64 (Bj + 1)),(Cn),(Cm),(y275),(.slice Hh y275.length Gj),rg_,H',⟨by have:=Di.out;omega⟩,⟨by (with_reducible repeat (first|apply Kd.R_alloc|apply Kd.R_drewN|apply Kd.R_drew));exact Kd.R_mono (Kd.R_far (p:=⟨An,3,none⟩) (Kd.R_types Dh.out Ah.out de_) (fun _ hk=>hk.2) (.slice Hh y275.length Gj)) (fun _ hk=>trivial)⟩,⟨bk_⟩,⟨bk_⟩,⟨by repeat (first|(with_reducible first|exact Aa.out|apply IsS84.alloc|apply IsS84.drewN|apply IsS84.drew|apply IsS84.set_0|apply IsS84.set_1|refine IsS84.far ?_ Ad.out _|refine IsS84.far ?_ Ae.out _)|exact Aa.out)⟩,⟨by repeat (first|(with_reducible first|exact HB.out|apply below_alloc|apply pw_below_drewN|apply below_drew1|refine below_set ?_ (IsS84.ge Aa.out)|refine below_set ?_ Am.out|refine below_set ?_ Ao.out)|exact HB.out)⟩⟩
     ·rw [if_neg Oj] at H
      exact absurd H sm_
    ·rw [if_neg Dt] at H
     have Gw:((Go.bits .and .i64 Bk 1) == 1) = false:=beq_eq_false_iff_ne.mpr Dt
     have Gv:((Go.bits .and .i64 Bk 1) != 1) = true:=bne_iff_ne.mpr Dt
     by_cases Oi:Ag.length < 17592186044416
     ·rw [if_pos Oi] at H
      have He:=Aside0.mk Oi
      clear Oi
      obtain ⟨y278,hy278⟩:∃ y_:List Int,y_ = (Ag ++ [wrap64 (Int.tdiv Bk 2)]):=⟨_,rfl⟩
      replace H:(record_Decode.l0 k1 a0 Ci (wrap64 (Bj + 1)) Cn Cm Aw Av Au y278) = some (r1,r2,r3,r4,r5,r6,r7):=by first|(rw [hy278];with_reducible exact H)|(have Cj:=(Option.bind_some _ _).symm.trans H;rw [hy278];with_reducible exact Cj)|(have Cj:=(Option.bind_some _ _).symm.trans H;with_reducible exact Cj)|with_reducible exact H|(rw [hy278];exact H)|exact H
      have Gz:=Aside0.mk hy278
      clear hy278
      have H':=Aside0.mk H
      clear H
      go_wp2_with (first|((with_reducible refine gate_callee (f:=54) rfl ?_);refine gm_ (some 24) Tryz.func54 #[.pointer (some ⟨Ba,0,none⟩)] ?_;(with_reducible refine (record_reader_short.calls k1 Ba Bf Bd Bk Cn Cm w _ ?side1 ?side2 Sb.out).mono ?_);(case side1=>repeat (first|(with_reducible first|exact Aa.out|apply IsS84.alloc|apply IsS84.drewN|apply IsS84.drew|apply IsS84.set_0|apply IsS84.set_1|refine IsS84.far ?_ Ad.out _|refine IsS84.far ?_ Ae.out _)|exact Aa.out));(case side2=>repeat (first|(with_reducible first|exact HB.out|apply below_alloc|apply pw_below_drewN|apply below_drew1|refine below_set ?_ (IsS84.ge Aa.out)|refine below_set ?_ Am.out|refine below_set ?_ Ao.out)|exact HB.out));rintro e Tg ⟨rfl,hi,hb,hk⟩;refine ⟨_,rfl,?_⟩;replace Ab:=Aside0.mk (Kd.R_mono (Kd.R_keep (IsS84.apart (show IsS84 w _ Ba Bf Bd from by repeat (first|(with_reducible first|exact Aa.out|apply IsS84.alloc|apply IsS84.drewN|apply IsS84.drew|apply IsS84.set_0|apply IsS84.set_1|refine IsS84.far ?_ Ad.out _|refine IsS84.far ?_ Ae.out _)|exact Aa.out)) (by (with_reducible repeat (first|apply Kd.R_alloc|apply Kd.R_drewN|apply Kd.R_drew));exact Ab.out) de_) hk (fun _ h=>h.2)) (fun _ h=>h.1));replace Ak:=Aside0.mk (KeepBut.blk hk (g':=Al) (o:=.cells #[.int .i64 0,.int .i64 0,.int .i64 0,.slice none 0 0,.slice none 0 0,.slice none 0 0] 26 (0,0)) bk_ Aq.out sm_);replace Ah:=Aside0.mk (KeepBut.blk hk (g':=An) (o:=.cells #[.int .i64 Aw,.int .i64 Av,.int .i64 Au,As,.slice none 0 0,.slice none 0 0] 26 (0,0)) bk_ Ap.out sm_);replace Aa:=Aside0.mk hi;replace HB:=Aside0.mk hb;(try clear hb);(try clear hk);(try clear hi);have Rq:=Ax.out;have Qz:=Ay.out;have Rp:=Ap.out;have Qy:=Ae.out;obtain ⟨No,Nn,Nm,Nl,Nk,Nj,Kl,Kk,Kj,Ki,Kh,Kg⟩:=c6_ Ah)|((with_reducible refine gate_builtin (b:=.append) (xs:=#[.tmp 32,.tmp 35]) rfl ?_);at_builtin;refine Kd.R_append (Kd.int .i64) (w0:=w) w.heap.size rfl (.tmp 32) (.tmp 35) 22 3 (.int .i64 0) 8 rfl Tryz.underlying22 info3 rfl de_ (by omega) As Ag (wrap64 (Int.tdiv Bk 2)) [.int .i64 (wrap64 (Int.tdiv Bk 2))] (fun _=>True) (fun _=>False) rfl rfl ?aP (fun _ hk=>hk.elim) ?aF ?aO ?aB ?aS ?aL ?_;(case aP=>exact rfl);(case aB=>exact (by repeat (first|(with_reducible first|exact HB.out|apply below_alloc|apply pw_below_drewN|apply below_drew1|refine below_set ?_ (IsS84.ge Aa.out)|refine below_set ?_ Am.out|refine below_set ?_ Ao.out)|exact HB.out)));(case aF=>exact (fun _ _=>trivial));(case aO=>exact (by (with_reducible repeat (first|apply Kd.R_alloc|apply Kd.R_drewN|apply Kd.R_drew));exact Ab.out));(case aS=>exact (below_size (by repeat (first|(with_reducible first|exact HB.out|apply below_alloc|apply pw_below_drewN|apply below_drew1|refine below_set ?_ (IsS84.ge Aa.out)|refine below_set ?_ Am.out|refine below_set ?_ Ao.out)|exact HB.out))));(case aL=>have:=He.out;omega);intro Sk Tf ho hb hg hat;rw [← Gz.out] at ho;have Dg:=Aside0.mk ho;replace Ak:=Aside0.mk (blk_grown (g:=Al) (o:=.cells #[.int .i64 0,.int .i64 0,.int .i64 0,.slice none 0 0,.slice none 0 0,.slice none 0 0] 26 (0,0)) bk_ hg (Kd.R_ne Ab.out Ak.out de_));replace Ah:=Aside0.mk (blk_grown (g:=An) (o:=.cells #[.int .i64 Aw,.int .i64 Av,.int .i64 Au,As,.slice none 0 0,.slice none 0 0] 26 (0,0)) bk_ hg (Kd.R_ne Ab.out Ah.out de_));replace Aa:=Aside0.mk (IsS84.grown (by repeat (first|(with_reducible first|exact Aa.out|apply IsS84.alloc|apply IsS84.drewN|apply IsS84.drew|apply IsS84.set_0|apply IsS84.set_1|refine IsS84.far ?_ Ad.out _|refine IsS84.far ?_ Ae.out _)|exact Aa.out)) hg (IsS84.own_ne Aa.out Ab.out de_));replace HB:=Aside0.mk hb;clear Ab;clear ho hb hg hat;obtain ⟨Hg,Gi,Pq⟩:=Kd.R_slice Dg.out;subst Pq;obtain ⟨Ni,Nh,Ng,Nf,Nd,Nc,Kf,Ke,Kb,Ka,Jz,Jy⟩:=c6_ Ah))
      go_roundg k1
      case measure=>have:=Di.out;omega
      case rel=>exact ⟨(wrap64 (Bj + 1)),(Cn),(Cm),(y278),(.slice Hg y278.length Gi),rg_,H',⟨by have:=Di.out;omega⟩,⟨by (with_reducible repeat (first|apply Kd.R_alloc|apply Kd.R_drewN|apply Kd.R_drew));exact Kd.R_mono (Kd.R_far (p:=⟨An,3,none⟩) (Kd.R_types Dg.out Ah.out de_) (fun _ hk=>hk.2) (.slice Hg y278.length Gi)) (fun _ hk=>trivial)⟩,⟨bk_⟩,⟨bk_⟩,⟨by repeat (first|(with_reducible first|exact Aa.out|apply IsS84.alloc|apply IsS84.drewN|apply IsS84.drew|apply IsS84.set_0|apply IsS84.set_1|refine IsS84.far ?_ Ad.out _|refine IsS84.far ?_ Ae.out _)|exact Aa.out)⟩,⟨by repeat (first|(with_reducible first|exact HB.out|apply below_alloc|apply pw_below_drewN|apply below_drew1|refine below_set ?_ (IsS84.ge Aa.out)|refine below_set ?_ Am.out|refine below_set ?_ Ao.out)|exact HB.out)⟩⟩
     ·rw [if_neg Oi] at H
      exact absurd H sm_
   ·rw [if_neg Dd] at H
    have Cr:decide (Bj < Ci) = false:=decide_eq_false Dd
    clear Dd
    obtain ⟨⟨Cl,Dz,Dy⟩,Sv,H⟩:=bn_ H
    dsimp only at H
    have H':=Aside0.mk H
    clear H
    go_wp2_with (first|((with_reducible refine gate_callee (f:=55) rfl ?_);refine gm_ (some 40) Tryz.func55 #[.pointer (some ⟨Ba,0,none⟩),.int .i64 64] ?_;(with_reducible refine (record_reader_count.calls k1 Ba Bf Bd 64 Cl Dz Dy w _ ?side1 ?side2 Sv.out).mono ?_);(case side1=>repeat (first|(with_reducible first|exact Aa.out|apply IsS84.alloc|apply IsS84.drewN|apply IsS84.drew|apply IsS84.set_0|apply IsS84.set_1|refine IsS84.far ?_ Ad.out _|refine IsS84.far ?_ Ae.out _)|exact Aa.out));(case side2=>repeat (first|(with_reducible first|exact HB.out|apply below_alloc|apply pw_below_drewN|apply below_drew1|refine below_set ?_ (IsS84.ge Aa.out)|refine below_set ?_ Am.out|refine below_set ?_ Ao.out)|exact HB.out));rintro e Te ⟨rfl,hi,hb,hk⟩;refine ⟨_,rfl,?_⟩;replace Ab:=Aside0.mk (Kd.R_mono (Kd.R_keep (IsS84.apart (show IsS84 w _ Ba Bf Bd from by repeat (first|(with_reducible first|exact Aa.out|apply IsS84.alloc|apply IsS84.drewN|apply IsS84.drew|apply IsS84.set_0|apply IsS84.set_1|refine IsS84.far ?_ Ad.out _|refine IsS84.far ?_ Ae.out _)|exact Aa.out)) (by (with_reducible repeat (first|apply Kd.R_alloc|apply Kd.R_drewN|apply Kd.R_drew));exact Ab.out) de_) hk (fun _ h=>h.2)) (fun _ h=>h.1));replace Ak:=Aside0.mk (KeepBut.blk hk (g':=Al) (o:=.cells #[.int .i64 0,.int .i64 0,.int .i64 0,.slice none 0 0,.slice none 0 0,.slice none 0 0] 26 (0,0)) bk_ Aq.out sm_);replace Ah:=Aside0.mk (KeepBut.blk hk (g':=An) (o:=.cells #[.int .i64 Aw,.int .i64 Av,.int .i64 Au,As,.slice none 0 0,.slice none 0 0] 26 (0,0)) bk_ Ap.out sm_);replace Aa:=Aside0.mk hi;replace HB:=Aside0.mk hb;(try clear hb);(try clear hk);(try clear hi)))
    go_loopg [41] k1 (fun kq Sg w'=>∃ (Bm:Int) (Be:ByteArray) (Bc:Bool) (Ai:List ByteArray) (Bb:Value),Sg = .int .i64 Bm∧Aside0 (record_Decode.l1 kq a0 Cl Bm Be Bc Aw Av Au Ag Ai = some (r1,r2,r3,r4,r5,r6,r7))∧Aside0 (kq≤k1)∧Aside0 (Kd.R (Kd.int .i64) 3 w' w.heap.size (fun _=>True) As Ag)∧Aside0 (Kd.R Kd.string 65 w' w.heap.size (fun _=>True) Bb Ai)∧Aside0 (w'.heap[Al]? = some (.cells #[.int .i64 0,.int .i64 0,.int .i64 0,(.slice none 0 0),(.slice none 0 0),(.slice none 0 0)] 26 (0,0)))∧Aside0 (w'.heap[An]? = some (.cells #[.int .i64 Aw,.int .i64 Av,.int .i64 Au,As,Bb,(.slice none 0 0)] 26 (0,0)))∧Aside0 (IsS84 w w' Ba Be Bc)∧Aside0 (Below w.heap.size w w'))
    case atStart=>exact ⟨(0),(Dz),(Dy),(([]:List ByteArray)),(.slice none 0 0),rg_,H',⟨Nat.le_refl _⟩,⟨by (with_reducible repeat (first|apply Kd.R_alloc|apply Kd.R_drewN|apply Kd.R_drew));exact Ab.out⟩,⟨by first|exact Kd.R_nil _ _ _ _ _|exact Kd.N_nil _ _ _ _ _|exact Kd.V_nil _ _ _ _ _|exact Kd.Q_nil _ _ _ _ _|exact Kd.S_nil _ _ _ _ _⟩,⟨bk_⟩,⟨bk_⟩,⟨by repeat (first|(with_reducible first|exact Aa.out|apply IsS84.alloc|apply IsS84.drewN|apply IsS84.drew|apply IsS84.set_0|apply IsS84.set_1|refine IsS84.far ?_ Ad.out _|refine IsS84.far ?_ Ae.out _)|exact Aa.out)⟩,⟨by repeat (first|(with_reducible first|exact HB.out|apply below_alloc|apply pw_below_drewN|apply below_drew1|refine below_set ?_ (IsS84.ge Aa.out)|refine below_set ?_ Am.out|refine below_set ?_ Ao.out)|exact HB.out)⟩⟩
    case round =>
     clear H'
     try clear Dd
     try clear Cr
     try clear Cc
     try clear Cb
     try clear Ca
     try clear Bz
     try clear By
     try clear Bx
     try clear Bw
     try clear Bv
     try clear Bu
     try clear Bt
     try clear Br
     try clear Bq
     obtain ⟨Bm,Be,Bc,Ai,Bb,rfl,HA,Ol,Ab,Ac,Ak,Ah,Aa,HB⟩:=hrel
     cases gk with
     | zero=>exact absurd HA.out (by simp [record_Decode.l1])
     | succ k2 =>
      have H:=HA.out
      clear HA
      simp only [record_Decode.l1] at H
      by_cases Ds:Bm < Cl
      ·rw [if_pos Ds] at H
       have Dc:decide (Bm < Cl) = true:=decide_eq_true Ds
       clear Ds
       obtain ⟨⟨Cw,Dm,Dl⟩,Su,H⟩:=bn_ H
       dsimp only at H
       by_cases Oh:Ai.length < 8796093022208
       ·rw [if_pos Oh] at H
        have Hd:=Aside0.mk Oh
        clear Oh
        obtain ⟨y287,hy287⟩:∃ y_:List ByteArray,y_ = (Ai ++ [Cw]):=⟨_,rfl⟩
        replace H:(record_Decode.l1 k2 a0 Cl (wrap64 (Bm + 1)) Dm Dl Aw Av Au Ag y287) = some (r1,r2,r3,r4,r5,r6,r7):=by first|(rw [hy287];with_reducible exact H)|(have Cj:=(Option.bind_some _ _).symm.trans H;rw [hy287];with_reducible exact Cj)|(have Cj:=(Option.bind_some _ _).symm.trans H;with_reducible exact Cj)|with_reducible exact H|(rw [hy287];exact H)|exact H
        have Gy:=Aside0.mk hy287
        clear hy287
        have H':=Aside0.mk H
        clear H
        try go_wp2
        replace Ab:=Aside0.mk (Kd.R_drew Ab.out)
        replace Ac:=Aside0.mk (Kd.R_drew Ac.out)
        replace Ak:=dr_ Ak
        replace Ah:=dr_ Ah
        replace Aa:=Aside0.mk (IsS84.drew Aa.out)
        replace HB:=db_ HB
        refine start_ (n:=8) (S:=fun w'=>w'.cell? ⟨An,0,none⟩ = some (.int .i64 Aw)∧w'.cell? ⟨An,1,none⟩ = some (.int .i64 Av)∧w'.cell? ⟨An,2,none⟩ = some (.int .i64 Au)∧w'.cell? ⟨An,3,none⟩ = some (As)∧w'.cell? ⟨An,4,none⟩ = some (Bb)∧w'.cell? ⟨An,5,none⟩ = some (.slice none 0 0)) (ds:=[7]) #[false,false,false,false,false,false,false,false] kr_ rfl rfl hc_ (fun Bi=>?_);refine with_tabW record_Decode.tab12 record_Decode.bits12 (fun Da Sr=>?_)
        generalize wr.drew = Td at Ab Ac Ak Ah Aa HB Bi ⊢
        refine pu_ 0 (some 43) (tt_ 8 1) ?_
        refine pu_ 2 (some 45) (tt_ 8 5) ?_
        refine tk_ 1 (some 44) (tt_ 8 7) Bi ?_
        refine oc_ 3 (some 46) (tt_ 8 15) Tryz.func56 #[.pointer (some ⟨Ba,0,none⟩)] (fun K hK=>?_)
        with_reducible refine (record_reader_bytes.calls k2 Ba Be Bc Cw Dm Dl w _ ?side1 ?side2 Su.out).mono ?_
        (case side1=>repeat (first|(with_reducible first|exact Aa.out|apply IsS84.alloc|apply IsS84.drewN|apply IsS84.drew|apply IsS84.set_0|apply IsS84.set_1|refine IsS84.far ?_ Ad.out _|refine IsS84.far ?_ Ae.out _)|exact Aa.out))
        (case side2=>repeat (first|(with_reducible first|exact HB.out|apply below_alloc|apply pw_below_drewN|apply below_drew1|refine below_set ?_ (IsS84.ge Aa.out)|refine below_set ?_ Am.out|refine below_set ?_ Ao.out)|exact HB.out))
        rintro e Tc ⟨rfl,hi,hb,hk⟩
        refine ⟨_,rfl,?_⟩
        replace Ab:=Aside0.mk (Kd.R_mono (Kd.R_keep (IsS84.apart (show IsS84 w _ Ba Be Bc from by repeat (first|(with_reducible first|exact Aa.out|apply IsS84.alloc|apply IsS84.drewN|apply IsS84.drew|apply IsS84.set_0|apply IsS84.set_1|refine IsS84.far ?_ Ad.out _|refine IsS84.far ?_ Ae.out _)|exact Aa.out)) (by (with_reducible repeat (first|apply Kd.R_alloc|apply Kd.R_drewN|apply Kd.R_drew));exact Ab.out) de_) hk (fun _ h=>h.2)) (fun _ h=>h.1))
        replace Ac:=Aside0.mk (Kd.R_mono (Kd.R_keep (IsS84.apart (show IsS84 w _ Ba Be Bc from by repeat (first|(with_reducible first|exact Aa.out|apply IsS84.alloc|apply IsS84.drewN|apply IsS84.drew|apply IsS84.set_0|apply IsS84.set_1|refine IsS84.far ?_ Ad.out _|refine IsS84.far ?_ Ae.out _)|exact Aa.out)) (by (with_reducible repeat (first|apply Kd.R_alloc|apply Kd.R_drewN|apply Kd.R_drew));exact Ac.out) de_) hk (fun _ h=>h.2)) (fun _ h=>h.1))
        replace Ak:=Aside0.mk (KeepBut.blk hk (g':=Al) (o:=.cells #[.int .i64 0,.int .i64 0,.int .i64 0,.slice none 0 0,.slice none 0 0,.slice none 0 0] 26 (0,0)) bk_ Aq.out sm_)
        replace Ah:=Aside0.mk (KeepBut.blk hk (g':=An) (o:=.cells #[.int .i64 Aw,.int .i64 Av,.int .i64 Au,As,Bb,.slice none 0 0] 26 (0,0)) bk_ Ap.out sm_)
        replace Aa:=Aside0.mk hi
        replace HB:=Aside0.mk hb
        (try clear hb)
        (try clear hk)
        (try clear hi)
        refine hk_ hK (fun Bi=>?_);clear hK K
        refine one_ (i:=4) (N:=some 47) #[true,true,true,true,true,false,false,false] rfl rfl (one_of Da.out kr_) de_ (fun K hK=>?_)
        refine value_ (w1:=?_) (v:=?_) (by rfl) rfl ?_ ?_
        rotate_left 2
        ·go_simp
         constructor
         ·rfl
         ·rfl
        refine hK.out _ _ ⟨(blk_cell (blk_alloc Ah.out _) 0).trans rfl,(blk_cell (blk_alloc Ah.out _) 1).trans rfl,(blk_cell (blk_alloc Ah.out _) 2).trans rfl,(blk_cell (blk_alloc Ah.out _) 3).trans rfl,(blk_cell (blk_alloc Ah.out _) 4).trans rfl,(blk_cell (blk_alloc Ah.out _) 5).trans rfl⟩ (fun Bi=>?_)
        clear hK K
        refine norm_ (a':=?_) ?_ ?_
        rotate_left
        ·show Act.put _ (some 47) _ = _
         simp only [Act.put,List.setIfInBounds_toArray,List.set_cons_zero,List.set_cons_succ,i64_w,i32_w]
         rfl
        refine one_ (i:=5) (N:=some 48) #[true,true,true,true,true,true,false,false] rfl rfl (one_of Da.out kr_) de_ (fun K hK=>?_)
        refine Kd.R_append_step Kd.string (w0:=w) w.heap.size (by rfl) (.tmp 44) (.tmp 47) 23 65 (.string ⟨#[]⟩) 16 rfl Tryz.underlying23 info65 rfl de_ (by omega) Bb Ai Cw [.string Cw] (fun _=>True) (fun _=>False) rfl rfl ?aP (fun _ hk=>hk.elim) ?aF ?aO ?aB ?aS ?aL ?_
        (case aP=>exact rfl)
        (case aB=>exact (by repeat (first|(with_reducible first|exact HB.out|apply below_alloc|apply pw_below_drewN|apply below_drew1|refine below_set ?_ (IsS84.ge Aa.out)|refine below_set ?_ Am.out|refine below_set ?_ Ao.out)|exact HB.out)))
        (case aF=>exact (fun _ _=>trivial))
        (case aO=>exact (by (with_reducible repeat (first|apply Kd.R_alloc|apply Kd.R_drewN|apply Kd.R_drew));exact Ac.out))
        (case aS=>exact (below_size (by repeat (first|(with_reducible first|exact HB.out|apply below_alloc|apply pw_below_drewN|apply below_drew1|refine below_set ?_ (IsS84.ge Aa.out)|refine below_set ?_ Am.out|refine below_set ?_ Ao.out)|exact HB.out))))
        (case aL=>have:=Hd.out;omega)
        intro Sj Sd ho hb hg hat
        rw [← Gy.out] at ho
        have Df:=Aside0.mk ho
        replace Ab:=Aside0.mk (Kd.R_over' (by (with_reducible repeat (first|apply Kd.R_alloc|apply Kd.R_drewN|apply Kd.R_drew));exact Ab.out) (Kd.R_typed (by (with_reducible repeat (first|apply Kd.R_alloc|apply Kd.R_drewN|apply Kd.R_drew));exact Ac.out)) de_ hg)
        replace Ak:=Aside0.mk (blk_grown (g:=Al) (o:=.cells #[.int .i64 0,.int .i64 0,.int .i64 0,.slice none 0 0,.slice none 0 0,.slice none 0 0] 26 (0,0)) bk_ hg (Kd.R_ne Ac.out Ak.out de_))
        replace Ah:=Aside0.mk (blk_grown (g:=An) (o:=.cells #[.int .i64 Aw,.int .i64 Av,.int .i64 Au,As,Bb,.slice none 0 0] 26 (0,0)) bk_ hg (Kd.R_ne Ac.out Ah.out de_))
        replace Aa:=Aside0.mk (IsS84.grown (by repeat (first|(with_reducible first|exact Aa.out|apply IsS84.alloc|apply IsS84.drewN|apply IsS84.drew|apply IsS84.set_0|apply IsS84.set_1|refine IsS84.far ?_ Ad.out _|refine IsS84.far ?_ Ae.out _)|exact Aa.out)) hg (IsS84.own_ne Aa.out Ac.out de_))
        replace HB:=Aside0.mk hb
        clear Ac
        clear ho hb hg hat
        obtain ⟨Du,Do,Ge⟩:=Kd.R_slice Df.out
        (first|subst Ge|(injection Ge with f1_ f2_ f3_;have Pc:=f1_.symm;have Pb:=f3_.symm;clear f1_ f2_ f3_;subst Pc;subst Pb))
        refine hk_ hK (fun Bi=>?_);clear hK K
        refine pu_ 6 (some 49) (tt_ 8 127) ?_
        refine last_ (i:=7) (N:=none) #[true,true,true,true,true,true,true,true] rfl rfl (one_of Da.out kr_) de_ (fun K hK=>?_)
        have Sq:Sd.cell? ⟨An,4,none⟩ = some (Bb):=(blk_cell Ah.out 4).trans rfl
        have Rz:=blk_frozen Ah.out 4
        have Hn:=Ay.out
        have Hp:=Ax.out
        refine skip_ (w1:=?_) (by rfl) rfl ?_ ?_
        rotate_left
        ·go_simp
         rfl
        refine hK.out _ _ ?_
        clear hK K
        refine done_ (done_of Da.out kr_) ?_
        try go_wp2
        go_roundg k2
        case measure=>have:=Di.out;have:=Ol.out;omega
        case rel=>exact ⟨(wrap64 (Bm + 1)),(Dm),(Dl),(y287),(.slice Du y287.length Do),rg_,H',⟨by have:=Di.out;have:=Ol.out;omega⟩,⟨by (with_reducible repeat (first|apply Kd.R_alloc|apply Kd.R_drewN|apply Kd.R_drew));exact Kd.R_mono (Kd.R_far (p:=⟨An,4,none⟩) (Kd.R_types Ab.out Ah.out de_) (fun _ hk=>hk.2) (.slice Du y287.length Do)) (fun _ hk=>trivial)⟩,⟨by (with_reducible repeat (first|apply Kd.R_alloc|apply Kd.R_drewN|apply Kd.R_drew));exact Kd.R_mono (Kd.R_far (p:=⟨An,4,none⟩) (Kd.R_types Df.out Ah.out de_) (fun _ hk=>hk.2) (.slice Du y287.length Do)) (fun _ hk=>trivial)⟩,⟨bk_⟩,⟨bk_⟩,⟨by repeat (first|(with_reducible first|exact Aa.out|apply IsS84.alloc|apply IsS84.drewN|apply IsS84.drew|apply IsS84.set_0|apply IsS84.set_1|refine IsS84.far ?_ Ad.out _|refine IsS84.far ?_ Ae.out _)|exact Aa.out)⟩,⟨by repeat (first|(with_reducible first|exact HB.out|apply below_alloc|apply pw_below_drewN|apply below_drew1|refine below_set ?_ (IsS84.ge Aa.out)|refine below_set ?_ Am.out|refine below_set ?_ Ao.out)|exact HB.out)⟩⟩
       ·rw [if_neg Oh] at H
        exact absurd H sm_
      ·rw [if_neg Ds] at H
       have Dc:decide (Bm < Cl) = false:=decide_eq_false Ds
       clear Ds
       obtain ⟨⟨Ck,Dx,Dw⟩,St,H⟩:=bn_ H
       dsimp only at H
       have H':=Aside0.mk H
       clear H
       go_wp2_with (first|((with_reducible refine gate_callee (f:=55) rfl ?_);refine gm_ (some 52) Tryz.func55 #[.pointer (some ⟨Ba,0,none⟩),.int .i64 16] ?_;(with_reducible refine (record_reader_count.calls k2 Ba Be Bc 16 Ck Dx Dw w _ ?side1 ?side2 St.out).mono ?_);(case side1=>repeat (first|(with_reducible first|exact Aa.out|apply IsS84.alloc|apply IsS84.drewN|apply IsS84.drew|apply IsS84.set_0|apply IsS84.set_1|refine IsS84.far ?_ Ad.out _|refine IsS84.far ?_ Ae.out _)|exact Aa.out));(case side2=>repeat (first|(with_reducible first|exact HB.out|apply below_alloc|apply pw_below_drewN|apply below_drew1|refine below_set ?_ (IsS84.ge Aa.out)|refine below_set ?_ Am.out|refine below_set ?_ Ao.out)|exact HB.out));rintro e Tb ⟨rfl,hi,hb,hk⟩;refine ⟨_,rfl,?_⟩;replace Ab:=Aside0.mk (Kd.R_mono (Kd.R_keep (IsS84.apart (show IsS84 w _ Ba Be Bc from by repeat (first|(with_reducible first|exact Aa.out|apply IsS84.alloc|apply IsS84.drewN|apply IsS84.drew|apply IsS84.set_0|apply IsS84.set_1|refine IsS84.far ?_ Ad.out _|refine IsS84.far ?_ Ae.out _)|exact Aa.out)) (by (with_reducible repeat (first|apply Kd.R_alloc|apply Kd.R_drewN|apply Kd.R_drew));exact Ab.out) de_) hk (fun _ h=>h.2)) (fun _ h=>h.1));replace Ac:=Aside0.mk (Kd.R_mono (Kd.R_keep (IsS84.apart (show IsS84 w _ Ba Be Bc from by repeat (first|(with_reducible first|exact Aa.out|apply IsS84.alloc|apply IsS84.drewN|apply IsS84.drew|apply IsS84.set_0|apply IsS84.set_1|refine IsS84.far ?_ Ad.out _|refine IsS84.far ?_ Ae.out _)|exact Aa.out)) (by (with_reducible repeat (first|apply Kd.R_alloc|apply Kd.R_drewN|apply Kd.R_drew));exact Ac.out) de_) hk (fun _ h=>h.2)) (fun _ h=>h.1));replace Ak:=Aside0.mk (KeepBut.blk hk (g':=Al) (o:=.cells #[.int .i64 0,.int .i64 0,.int .i64 0,.slice none 0 0,.slice none 0 0,.slice none 0 0] 26 (0,0)) bk_ Aq.out sm_);replace Ah:=Aside0.mk (KeepBut.blk hk (g':=An) (o:=.cells #[.int .i64 Aw,.int .i64 Av,.int .i64 Au,As,Bb,.slice none 0 0] 26 (0,0)) bk_ Ap.out sm_);replace Aa:=Aside0.mk hi;replace HB:=Aside0.mk hb;(try clear hb);(try clear hk);(try clear hi)))
       go_loopg [53] k2 (fun kq Sf w'=>∃ (Bl:Int) (At:ByteArray) (Bg:Bool) (Aj:List ByteArray) (Bh:Value),Sf = .int .i64 Bl∧Aside0 (record_Decode.l2 kq a0 Ck Bl At Bg Aw Av Au Ag Ai Aj = some (r1,r2,r3,r4,r5,r6,r7))∧Aside0 (kq≤k2)∧Aside0 (Kd.R (Kd.int .i64) 3 w' w.heap.size (fun _=>True) As Ag)∧Aside0 (Kd.R Kd.string 65 w' w.heap.size (fun _=>True) Bb Ai)∧Aside0 (Kd.R Kd.string 9 w' w.heap.size (fun _=>True) Bh Aj)∧Aside0 (w'.heap[Al]? = some (.cells #[.int .i64 0,.int .i64 0,.int .i64 0,(.slice none 0 0),(.slice none 0 0),(.slice none 0 0)] 26 (0,0)))∧Aside0 (w'.heap[An]? = some (.cells #[.int .i64 Aw,.int .i64 Av,.int .i64 Au,As,Bb,Bh] 26 (0,0)))∧Aside0 (IsS84 w w' Ba At Bg)∧Aside0 (Below w.heap.size w w'))
       case atStart=>exact ⟨(0),(Dx),(Dw),(([]:List ByteArray)),(.slice none 0 0),rg_,H',⟨Nat.le_refl _⟩,⟨by (with_reducible repeat (first|apply Kd.R_alloc|apply Kd.R_drewN|apply Kd.R_drew));exact Ab.out⟩,⟨by (with_reducible repeat (first|apply Kd.R_alloc|apply Kd.R_drewN|apply Kd.R_drew));exact Ac.out⟩,⟨by first|exact Kd.R_nil _ _ _ _ _|exact Kd.N_nil _ _ _ _ _|exact Kd.V_nil _ _ _ _ _|exact Kd.Q_nil _ _ _ _ _|exact Kd.S_nil _ _ _ _ _⟩,⟨bk_⟩,⟨bk_⟩,⟨by repeat (first|(with_reducible first|exact Aa.out|apply IsS84.alloc|apply IsS84.drewN|apply IsS84.drew|apply IsS84.set_0|apply IsS84.set_1|refine IsS84.far ?_ Ad.out _|refine IsS84.far ?_ Ae.out _)|exact Aa.out)⟩,⟨by repeat (first|(with_reducible first|exact HB.out|apply below_alloc|apply pw_below_drewN|apply below_drew1|refine below_set ?_ (IsS84.ge Aa.out)|refine below_set ?_ Am.out|refine below_set ?_ Ao.out)|exact HB.out)⟩⟩
       case round =>
        clear H'
        try clear Dd
        try clear Cr
        try clear Ds
        try clear Dc
        try clear Cc
        try clear Cb
        try clear Ca
        try clear Bz
        try clear By
        try clear Bx
        try clear Bw
        try clear Bv
        try clear Bu
        try clear Bt
        try clear Br
        try clear Bq
        obtain ⟨Bl,At,Bg,Aj,Bh,rfl,HA,Sa,Ab,Ac,Af,Ak,Ah,Aa,HB⟩:=hrel
        cases gk with
        | zero=>exact absurd HA.out (by simp [record_Decode.l2])
        | succ k3 =>
         have H:=HA.out
         clear HA
         simp only [record_Decode.l2] at H
         by_cases Dv:Bl < Ck
         ·rw [if_pos Dv] at H
          have Gu:decide (Bl < Ck) = true:=decide_eq_true Dv
          clear Dv
          obtain ⟨⟨Cv,Dk,Dj⟩,Ss,H⟩:=bn_ H
          dsimp only at H
          by_cases Og:Aj.length < 8796093022208
          ·rw [if_pos Og] at H
           have Hb:=Aside0.mk Og
           clear Og
           obtain ⟨y296,hy296⟩:∃ y_:List ByteArray,y_ = (Aj ++ [Cv]):=⟨_,rfl⟩
           replace H:(record_Decode.l2 k3 a0 Ck (wrap64 (Bl + 1)) Dk Dj Aw Av Au Ag Ai y296) = some (r1,r2,r3,r4,r5,r6,r7):=by first|(rw [hy296];with_reducible exact H)|(have Cj:=(Option.bind_some _ _).symm.trans H;rw [hy296];with_reducible exact Cj)|(have Cj:=(Option.bind_some _ _).symm.trans H;with_reducible exact Cj)|with_reducible exact H|(rw [hy296];exact H)|exact H
           have Gx:=Aside0.mk hy296
           clear hy296
           have H':=Aside0.mk H
           clear H
           try go_wp2
           replace Ab:=Aside0.mk (Kd.R_drew Ab.out)
           replace Ac:=Aside0.mk (Kd.R_drew Ac.out)
           replace Af:=Aside0.mk (Kd.R_drew Af.out)
           replace Ak:=dr_ Ak
           replace Ah:=dr_ Ah
           replace Aa:=Aside0.mk (IsS84.drew Aa.out)
           replace HB:=db_ HB
           refine start_ (n:=8) (S:=fun w'=>w'.cell? ⟨An,0,none⟩ = some (.int .i64 Aw)∧w'.cell? ⟨An,1,none⟩ = some (.int .i64 Av)∧w'.cell? ⟨An,2,none⟩ = some (.int .i64 Au)∧w'.cell? ⟨An,3,none⟩ = some (As)∧w'.cell? ⟨An,4,none⟩ = some (Bb)∧w'.cell? ⟨An,5,none⟩ = some (Bh)) (ds:=[7]) #[false,false,false,false,false,false,false,false] kr_ rfl rfl hc_ (fun Bi=>?_);refine with_tabW record_Decode.tab16 record_Decode.bits16 (fun Da Sr=>?_)
           generalize wr.drew = Ta at Ab Ac Af Ak Ah Aa HB Bi ⊢
           refine pu_ 0 (some 55) (tt_ 8 1) ?_
           refine pu_ 2 (some 57) (tt_ 8 5) ?_
           refine tk_ 1 (some 56) (tt_ 8 7) Bi ?_
           refine oc_ 3 (some 58) (tt_ 8 15) Tryz.func56 #[.pointer (some ⟨Ba,0,none⟩)] (fun K hK=>?_)
           with_reducible refine (record_reader_bytes.calls k3 Ba At Bg Cv Dk Dj w _ ?side1 ?side2 Ss.out).mono ?_
           (case side1=>repeat (first|(with_reducible first|exact Aa.out|apply IsS84.alloc|apply IsS84.drewN|apply IsS84.drew|apply IsS84.set_0|apply IsS84.set_1|refine IsS84.far ?_ Ad.out _|refine IsS84.far ?_ Ae.out _)|exact Aa.out))
           (case side2=>repeat (first|(with_reducible first|exact HB.out|apply below_alloc|apply pw_below_drewN|apply below_drew1|refine below_set ?_ (IsS84.ge Aa.out)|refine below_set ?_ Am.out|refine below_set ?_ Ao.out)|exact HB.out))
           rintro e Sz ⟨rfl,hi,hb,hk⟩
           refine ⟨_,rfl,?_⟩
           replace Ab:=Aside0.mk (Kd.R_mono (Kd.R_keep (IsS84.apart (show IsS84 w _ Ba At Bg from by repeat (first|(with_reducible first|exact Aa.out|apply IsS84.alloc|apply IsS84.drewN|apply IsS84.drew|apply IsS84.set_0|apply IsS84.set_1|refine IsS84.far ?_ Ad.out _|refine IsS84.far ?_ Ae.out _)|exact Aa.out)) (by (with_reducible repeat (first|apply Kd.R_alloc|apply Kd.R_drewN|apply Kd.R_drew));exact Ab.out) de_) hk (fun _ h=>h.2)) (fun _ h=>h.1))
           replace Ac:=Aside0.mk (Kd.R_mono (Kd.R_keep (IsS84.apart (show IsS84 w _ Ba At Bg from by repeat (first|(with_reducible first|exact Aa.out|apply IsS84.alloc|apply IsS84.drewN|apply IsS84.drew|apply IsS84.set_0|apply IsS84.set_1|refine IsS84.far ?_ Ad.out _|refine IsS84.far ?_ Ae.out _)|exact Aa.out)) (by (with_reducible repeat (first|apply Kd.R_alloc|apply Kd.R_drewN|apply Kd.R_drew));exact Ac.out) de_) hk (fun _ h=>h.2)) (fun _ h=>h.1))
           replace Af:=Aside0.mk (Kd.R_mono (Kd.R_keep (IsS84.apart (show IsS84 w _ Ba At Bg from by repeat (first|(with_reducible first|exact Aa.out|apply IsS84.alloc|apply IsS84.drewN|apply IsS84.drew|apply IsS84.set_0|apply IsS84.set_1|refine IsS84.far ?_ Ad.out _|refine IsS84.far ?_ Ae.out _)|exact Aa.out)) (by (with_reducible repeat (first|apply Kd.R_alloc|apply Kd.R_drewN|apply Kd.R_drew));exact Af.out) de_) hk (fun _ h=>h.2)) (fun _ h=>h.1))
           replace Ak:=Aside0.mk (KeepBut.blk hk (g':=Al) (o:=.cells #[.int .i64 0,.int .i64 0,.int .i64 0,.slice none 0 0,.slice none 0 0,.slice none 0 0] 26 (0,0)) bk_ Aq.out sm_)
           replace Ah:=Aside0.mk (KeepBut.blk hk (g':=An) (o:=.cells #[.int .i64 Aw,.int .i64 Av,.int .i64 Au,As,Bb,Bh] 26 (0,0)) bk_ Ap.out sm_)
           replace Aa:=Aside0.mk hi
           replace HB:=Aside0.mk hb
           (try clear hb)
           (try clear hk)
           (try clear hi)
           refine hk_ hK (fun Bi=>?_);clear hK K
           refine one_ (i:=4) (N:=some 59) #[true,true,true,true,true,false,false,false] rfl rfl (one_of Da.out kr_) de_ (fun K hK=>?_)
           refine value_ (w1:=?_) (v:=?_) (by rfl) rfl ?_ ?_
           rotate_left 2
           ·go_simp
            constructor
            ·rfl
            ·rfl
           refine hK.out _ _ ⟨(blk_cell (blk_alloc Ah.out _) 0).trans rfl,(blk_cell (blk_alloc Ah.out _) 1).trans rfl,(blk_cell (blk_alloc Ah.out _) 2).trans rfl,(blk_cell (blk_alloc Ah.out _) 3).trans rfl,(blk_cell (blk_alloc Ah.out _) 4).trans rfl,(blk_cell (blk_alloc Ah.out _) 5).trans rfl⟩ (fun Bi=>?_)
           clear hK K
           refine norm_ (a':=?_) ?_ ?_
           rotate_left
           ·show Act.put _ (some 59) _ = _
            simp only [Act.put,List.setIfInBounds_toArray,List.set_cons_zero,List.set_cons_succ,i64_w,i32_w]
            rfl
           refine one_ (i:=5) (N:=some 60) #[true,true,true,true,true,true,false,false] rfl rfl (one_of Da.out kr_) de_ (fun K hK=>?_)
           refine Kd.R_append_step Kd.string (w0:=w) w.heap.size (by rfl) (.tmp 56) (.tmp 59) 24 9 (.string ⟨#[]⟩) 16 rfl Tryz.underlying24 info9 rfl de_ (by omega) Bh Aj Cv [.string Cv] (fun _=>True) (fun _=>False) rfl rfl ?aP (fun _ hk=>hk.elim) ?aF ?aO ?aB ?aS ?aL ?_
           (case aP=>exact rfl)
           (case aB=>exact (by repeat (first|(with_reducible first|exact HB.out|apply below_alloc|apply pw_below_drewN|apply below_drew1|refine below_set ?_ (IsS84.ge Aa.out)|refine below_set ?_ Am.out|refine below_set ?_ Ao.out)|exact HB.out)))
           (case aF=>exact (fun _ _=>trivial))
           (case aO=>exact (by (with_reducible repeat (first|apply Kd.R_alloc|apply Kd.R_drewN|apply Kd.R_drew));exact Af.out))
           (case aS=>exact (below_size (by repeat (first|(with_reducible first|exact HB.out|apply below_alloc|apply pw_below_drewN|apply below_drew1|refine below_set ?_ (IsS84.ge Aa.out)|refine below_set ?_ Am.out|refine below_set ?_ Ao.out)|exact HB.out))))
           (case aL=>have:=Hb.out;omega)
           intro Si Sc ho hb hg hat
           rw [← Gx.out] at ho
           have De:=Aside0.mk ho
           replace Ab:=Aside0.mk (Kd.R_over' (by (with_reducible repeat (first|apply Kd.R_alloc|apply Kd.R_drewN|apply Kd.R_drew));exact Ab.out) (Kd.R_typed (by (with_reducible repeat (first|apply Kd.R_alloc|apply Kd.R_drewN|apply Kd.R_drew));exact Af.out)) de_ hg)
           replace Ac:=Aside0.mk (Kd.R_over' (by (with_reducible repeat (first|apply Kd.R_alloc|apply Kd.R_drewN|apply Kd.R_drew));exact Ac.out) (Kd.R_typed (by (with_reducible repeat (first|apply Kd.R_alloc|apply Kd.R_drewN|apply Kd.R_drew));exact Af.out)) de_ hg)
           replace Ak:=Aside0.mk (blk_grown (g:=Al) (o:=.cells #[.int .i64 0,.int .i64 0,.int .i64 0,.slice none 0 0,.slice none 0 0,.slice none 0 0] 26 (0,0)) bk_ hg (Kd.R_ne Af.out Ak.out de_))
           replace Ah:=Aside0.mk (blk_grown (g:=An) (o:=.cells #[.int .i64 Aw,.int .i64 Av,.int .i64 Au,As,Bb,Bh] 26 (0,0)) bk_ hg (Kd.R_ne Af.out Ah.out de_))
           replace Aa:=Aside0.mk (IsS84.grown (by repeat (first|(with_reducible first|exact Aa.out|apply IsS84.alloc|apply IsS84.drewN|apply IsS84.drew|apply IsS84.set_0|apply IsS84.set_1|refine IsS84.far ?_ Ad.out _|refine IsS84.far ?_ Ae.out _)|exact Aa.out)) hg (IsS84.own_ne Aa.out Af.out de_))
           replace HB:=Aside0.mk hb
           clear Af
           clear ho hb hg hat
           obtain ⟨Db,Cz,Gd⟩:=Kd.R_slice De.out
           (first|subst Gd|(injection Gd with f1_ f2_ f3_;have Pc:=f1_.symm;have Pb:=f3_.symm;clear f1_ f2_ f3_;subst Pc;subst Pb))
           refine hk_ hK (fun Bi=>?_);clear hK K
           refine pu_ 6 (some 61) (tt_ 8 127) ?_
           refine last_ (i:=7) (N:=none) #[true,true,true,true,true,true,true,true] rfl rfl (one_of Da.out kr_) de_ (fun K hK=>?_)
           have Sp:Sc.cell? ⟨An,5,none⟩ = some (Bh):=(blk_cell Ah.out 5).trans rfl
           have Ry:=blk_frozen Ah.out 5
           have Hm:=Ay.out
           have Ho:=Ax.out
           refine skip_ (w1:=?_) (by rfl) rfl ?_ ?_
           rotate_left
           ·go_simp
            rfl
           refine hK.out _ _ ?_
           clear hK K
           refine done_ (done_of Da.out kr_) ?_
           try go_wp2
           go_roundg k3
           case measure=>have:=Di.out;have:=Ol.out;have:=Sa.out;omega
           case rel=>exact ⟨(wrap64 (Bl + 1)),(Dk),(Dj),(y296),(.slice Db y296.length Cz),rg_,H',⟨by have:=Di.out;have:=Ol.out;have:=Sa.out;omega⟩,⟨by (with_reducible repeat (first|apply Kd.R_alloc|apply Kd.R_drewN|apply Kd.R_drew));exact Kd.R_mono (Kd.R_far (p:=⟨An,5,none⟩) (Kd.R_types Ab.out Ah.out de_) (fun _ hk=>hk.2) (.slice Db y296.length Cz)) (fun _ hk=>trivial)⟩,⟨by (with_reducible repeat (first|apply Kd.R_alloc|apply Kd.R_drewN|apply Kd.R_drew));exact Kd.R_mono (Kd.R_far (p:=⟨An,5,none⟩) (Kd.R_types Ac.out Ah.out de_) (fun _ hk=>hk.2) (.slice Db y296.length Cz)) (fun _ hk=>trivial)⟩,⟨by (with_reducible repeat (first|apply Kd.R_alloc|apply Kd.R_drewN|apply Kd.R_drew));exact Kd.R_mono (Kd.R_far (p:=⟨An,5,none⟩) (Kd.R_types De.out Ah.out de_) (fun _ hk=>hk.2) (.slice Db y296.length Cz)) (fun _ hk=>trivial)⟩,⟨bk_⟩,⟨bk_⟩,⟨by repeat (first|(with_reducible first|exact Aa.out|apply IsS84.alloc|apply IsS84.drewN|apply IsS84.drew|apply IsS84.set_0|apply IsS84.set_1|refine IsS84.far ?_ Ad.out _|refine IsS84.far ?_ Ae.out _)|exact Aa.out)⟩,⟨by repeat (first|(with_reducible first|exact HB.out|apply below_alloc|apply pw_below_drewN|apply below_drew1|refine below_set ?_ (IsS84.ge Aa.out)|refine below_set ?_ Am.out|refine below_set ?_ Ao.out)|exact HB.out)⟩⟩
          ·rw [if_neg Og] at H
           exact absurd H sm_
         ·rw [if_neg Dv] at H
          have Gu:decide (Bl < Ck) = false:=decide_eq_false Dv
          clear Dv
          obtain ⟨⟨Bo,Bn⟩,Hl,H⟩:=bn_ H
          dsimp only at H
          by_cases Of:Bg = true
          ·subst Of
           have H1:(some (0,0,0,([]:List Int),([]:List ByteArray),([]:List ByteArray),13)) = some (r1,r2,r3,r4,r5,r6,r7):=by rw [if_pos rfl] at H;exact H
           clear H
           have H:=H1
           clear H1
           simp only [Option.some.injEq,Prod.mk.injEq] at H
           obtain ⟨rfl,rfl,rfl,rfl,rfl,rfl,rfl⟩:=H
           have Ro:=Ax.out
           have Qx:=Ay.out
           have Rn:=Ap.out
           have Qw:=Ae.out
           obtain ⟨Nb,Na,Mz,My,Mx,Mw,Jw,Jv,Ju,Jt,Js,Jr⟩:=c6_ Ah
           obtain ⟨Qm,Qd,Pp⟩:=Kd.R_slice Ab.out
           subst Pp
           obtain ⟨Ql,Qc,Po⟩:=Kd.R_slice Ac.out
           subst Po
           obtain ⟨Qk,Qb,Pn⟩:=Kd.R_slice Af.out
           subst Pn
           go_wp2_with (first|((with_reducible refine gate_callee (f:=12) rfl ?_);refine gm_ (some 65) Tryz.func12 #[.agg #[.int .i64 Aw,.int .i64 Av,.int .i64 Au,.slice Qm Ag.length Qd,.slice Ql Ai.length Qc,.slice Qk Aj.length Qb]] ?_;(with_reducible refine (record_Encode.calls k3 Aw Av Au _ _ Ag _ _ Ai _ _ Aj Bo Bn _ ?side1 ?side2 ?side3 ?side4 ?side5 ?side6 ?side7 Hl.out).mono ?_);(case side1=>exact cx_ ((Kd.R_reads' Ab.out).2.2));(case side2=>exact (Kd.R_reads' Ab.out).2.1);(case side3=>exact cx_ ((Kd.R_reads' Ac.out).2.2));(case side4=>exact (Kd.R_reads' Ac.out).2.1);(case side5=>exact cx_ ((Kd.R_reads' Af.out).2.2));(case side6=>exact (Kd.R_reads' Af.out).2.1);(case side7=>exact HLW.out.below (by repeat (first|(with_reducible first|exact HB.out|apply below_alloc|apply pw_below_drewN|apply below_drew1|refine below_set ?_ (IsS84.ge Aa.out)|refine below_set ?_ Am.out|refine below_set ?_ Ao.out)|exact HB.out)));rintro e w64 ⟨rfl,hb⟩;refine ⟨_,rfl,?_⟩;replace Ab:=rb_ Ab hb;replace Ac:=rb_ Ac hb;replace Af:=rb_ Af hb;replace Ak:=bb_ Ak hb;replace Ah:=bb_ Ah hb;replace Aa:=Aside0.mk (IsS84.below (by repeat (first|(with_reducible first|exact Aa.out|apply IsS84.alloc|apply IsS84.drewN|apply IsS84.drew|apply IsS84.set_0|apply IsS84.set_1|refine IsS84.far ?_ Ad.out _|refine IsS84.far ?_ Ae.out _)|exact Aa.out)) hb);replace HB:=Aside0.mk (below_step (by repeat (first|(with_reducible first|exact HB.out|apply below_alloc|apply pw_below_drewN|apply below_drew1|refine below_set ?_ (IsS84.ge Aa.out)|refine below_set ?_ Am.out|refine below_set ?_ Ao.out)|exact HB.out)) hb);(try clear hb);obtain ⟨Ch,Ej⟩:=Aa.out;have Mv:=cellS84_0 Ch;have Mu:=cellS84_1 Ch;have Jq:=blk_frozen Ch 0;have Jp:=blk_frozen Ch 1;clear Ch Ej;have Rm:=Aq.out;have Qv:=Ad.out;obtain ⟨Mt,Ms,Mr,Mq,Mp,Mo,Jo,Jn,Jm,Jl,Jk,Jj⟩:=c6_ Ak))
           refine bodyPost_ret (results_ct rfl _ _ Al 26 #[.int .i64 0,.int .i64 0,.int .i64 0,.slice none 0 0,.slice none 0 0,.slice none 0 0] (0,0) _ rfl bk_ Tryz.underlying26 rfl kr_) rfl ?_
           exact ⟨_,_,_,rf_,by first|exact Kd.R_nil _ _ _ _ _|exact Kd.N_nil _ _ _ _ _|exact Kd.V_nil _ _ _ _ _|exact Kd.Q_nil _ _ _ _ _|exact Kd.S_nil _ _ _ _ _,by first|exact Kd.R_nil _ _ _ _ _|exact Kd.N_nil _ _ _ _ _|exact Kd.V_nil _ _ _ _ _|exact Kd.Q_nil _ _ _ _ _|exact Kd.S_nil _ _ _ _ _,by first|exact Kd.R_nil _ _ _ _ _|exact Kd.N_nil _ _ _ _ _|exact Kd.V_nil _ _ _ _ _|exact Kd.Q_nil _ _ _ _ _|exact Kd.S_nil _ _ _ _ _,by repeat (first|(with_reducible first|exact HB.out|apply below_alloc|apply pw_below_drewN|apply below_drew1|refine below_set ?_ (IsS84.ge Aa.out)|refine below_set ?_ Am.out|refine below_set ?_ Ao.out)|exact HB.out)⟩
          ·replace Of:=Bool.eq_false_iff.mpr Of
           subst Of
           have H1:(if At.toList = ([]:List UInt8) then (if Bn = 0 then (if Bo.toList = a0.toList then (some (Aw,Av,Au,Ag,Ai,Aj,0)) else (some (0,0,0,([]:List Int),([]:List ByteArray),([]:List ByteArray),13))) else (some (0,0,0,([]:List Int),([]:List ByteArray),([]:List ByteArray),13))) else (some (0,0,0,([]:List Int),([]:List ByteArray),([]:List ByteArray),13))) = some (r1,r2,r3,r4,r5,r6,r7):=by rw [if_neg (show ¬ (false = true) by decide)] at H;exact H
           clear H
           have H:=H1
           clear H1
           by_cases Dr:At.toList = ([]:List UInt8)
           ·rw [if_pos Dr] at H
            have Gt:(At.toList == ([]:List UInt8)) = true:=beq_iff_eq.mpr Dr
            have Gs:(At.toList != ([]:List UInt8)) = false:=bne_eq_false_iff_eq.mpr Dr
            clear Dr
            by_cases Dq:Bn = 0
            ·rw [if_pos Dq] at H
             have Gr:(Bn == 0) = true:=beq_iff_eq.mpr Dq
             have Gq:(Bn != 0) = false:=bne_eq_false_iff_eq.mpr Dq
             clear Dq
             by_cases Dp:Bo.toList = a0.toList
             ·rw [if_pos Dp] at H
              have Gp:(Bo.toList == a0.toList) = true:=beq_iff_eq.mpr Dp
              have Gn:(Bo.toList != a0.toList) = false:=bne_eq_false_iff_eq.mpr Dp
              clear Dp
              simp only [Option.some.injEq,Prod.mk.injEq] at H
              obtain ⟨rfl,rfl,rfl,rfl,rfl,rfl,rfl⟩:=H
              have Rl:=Ax.out
              have Qu:=Ay.out
              have Rk:=Ap.out
              have Qt:=Ae.out
              obtain ⟨Mn,Mm,Ml,Mk,Mj,Mi,Ji,Jh,Jg,Jf,Je,Jd⟩:=c6_ Ah
              obtain ⟨Cu,Cq,Pm⟩:=Kd.R_slice Ab.out
              subst Pm
              obtain ⟨Ct,Cp,Pk⟩:=Kd.R_slice Ac.out
              subst Pk
              obtain ⟨Cs,Co,Pj⟩:=Kd.R_slice Af.out
              subst Pj
              go_wp2_with (first|((with_reducible refine gate_callee (f:=12) rfl ?_);refine gm_ (some 65) Tryz.func12 #[.agg #[.int .i64 Aw,.int .i64 Av,.int .i64 Au,.slice Cu Ag.length Cq,.slice Ct Ai.length Cp,.slice Cs Aj.length Co]] ?_;(with_reducible refine (record_Encode.calls k3 Aw Av Au _ _ Ag _ _ Ai _ _ Aj Bo Bn _ ?side1 ?side2 ?side3 ?side4 ?side5 ?side6 ?side7 Hl.out).mono ?_);(case side1=>exact cx_ ((Kd.R_reads' Ab.out).2.2));(case side2=>exact (Kd.R_reads' Ab.out).2.1);(case side3=>exact cx_ ((Kd.R_reads' Ac.out).2.2));(case side4=>exact (Kd.R_reads' Ac.out).2.1);(case side5=>exact cx_ ((Kd.R_reads' Af.out).2.2));(case side6=>exact (Kd.R_reads' Af.out).2.1);(case side7=>exact HLW.out.below (by repeat (first|(with_reducible first|exact HB.out|apply below_alloc|apply pw_below_drewN|apply below_drew1|refine below_set ?_ (IsS84.ge Aa.out)|refine below_set ?_ Am.out|refine below_set ?_ Ao.out)|exact HB.out)));rintro e Sy ⟨rfl,hb⟩;refine ⟨_,rfl,?_⟩;replace Ab:=rb_ Ab hb;replace Ac:=rb_ Ac hb;replace Af:=rb_ Af hb;replace Ak:=bb_ Ak hb;replace Ah:=bb_ Ah hb;replace Aa:=Aside0.mk (IsS84.below (by repeat (first|(with_reducible first|exact Aa.out|apply IsS84.alloc|apply IsS84.drewN|apply IsS84.drew|apply IsS84.set_0|apply IsS84.set_1|refine IsS84.far ?_ Ad.out _|refine IsS84.far ?_ Ae.out _)|exact Aa.out)) hb);replace HB:=Aside0.mk (below_step (by repeat (first|(with_reducible first|exact HB.out|apply below_alloc|apply pw_below_drewN|apply below_drew1|refine below_set ?_ (IsS84.ge Aa.out)|refine below_set ?_ Am.out|refine below_set ?_ Ao.out)|exact HB.out)) hb);(try clear hb);obtain ⟨Cg,Ei⟩:=Aa.out;have Mh:=cellS84_0 Cg;have Mg:=cellS84_1 Cg;have Jc:=blk_frozen Cg 0;have Jb:=blk_frozen Cg 1;clear Cg Ei;obtain ⟨Mf,Me,Md,Mc,Mb,Ma,Ja,Iz,Iy,Ix,Iw,Iv⟩:=c6_ Ah;have Rj:=Aq.out;have Qs:=Ad.out;obtain ⟨Lz,Ly,Lx,Lw,Lv,Lu,Iu,It,Ir,Iq,Ip,Io⟩:=c6_ Ak))
              refine bodyPost_ret (results_ct rfl _ _ Al 26 #[.int .i64 Aw,.int .i64 Av,.int .i64 Au,.slice Cu Ag.length Cq,.slice Ct Ai.length Cp,.slice Cs Aj.length Co] (0,0) _ rfl bk_ Tryz.underlying26 rfl kr_) rfl ?_
              exact ⟨_,_,_,rf_,by (with_reducible repeat (first|apply Kd.R_alloc|apply Kd.R_drewN|apply Kd.R_drew));exact Kd.R_mono (Kd.R_far (p:=⟨Al,5,none⟩) (Kd.R_far (p:=⟨Al,4,none⟩) (Kd.R_far (p:=⟨Al,3,none⟩) (Kd.R_far (p:=⟨Al,2,none⟩) (Kd.R_far (p:=⟨Al,1,none⟩) (Kd.R_far (p:=⟨Al,0,none⟩) (Kd.R_types Ab.out Ak.out de_) (fun _ hk=>hk.2) (.int .i64 Aw)) (fun _ hk=>hk.2) (.int .i64 Av)) (fun _ hk=>hk.2) (.int .i64 Au)) (fun _ hk=>hk.2) (.slice Cu Ag.length Cq)) (fun _ hk=>hk.2) (.slice Ct Ai.length Cp)) (fun _ hk=>hk.2) (.slice Cs Aj.length Co)) (fun _ hk=>trivial),by (with_reducible repeat (first|apply Kd.R_alloc|apply Kd.R_drewN|apply Kd.R_drew));exact Kd.R_mono (Kd.R_far (p:=⟨Al,5,none⟩) (Kd.R_far (p:=⟨Al,4,none⟩) (Kd.R_far (p:=⟨Al,3,none⟩) (Kd.R_far (p:=⟨Al,2,none⟩) (Kd.R_far (p:=⟨Al,1,none⟩) (Kd.R_far (p:=⟨Al,0,none⟩) (Kd.R_types Ac.out Ak.out de_) (fun _ hk=>hk.2) (.int .i64 Aw)) (fun _ hk=>hk.2) (.int .i64 Av)) (fun _ hk=>hk.2) (.int .i64 Au)) (fun _ hk=>hk.2) (.slice Cu Ag.length Cq)) (fun _ hk=>hk.2) (.slice Ct Ai.length Cp)) (fun _ hk=>hk.2) (.slice Cs Aj.length Co)) (fun _ hk=>trivial),by (with_reducible repeat (first|apply Kd.R_alloc|apply Kd.R_drewN|apply Kd.R_drew));exact Kd.R_mono (Kd.R_far (p:=⟨Al,5,none⟩) (Kd.R_far (p:=⟨Al,4,none⟩) (Kd.R_far (p:=⟨Al,3,none⟩) (Kd.R_far (p:=⟨Al,2,none⟩) (Kd.R_far (p:=⟨Al,1,none⟩) (Kd.R_far (p:=⟨Al,0,none⟩) (Kd.R_types Af.out Ak.out de_) (fun _ hk=>hk.2) (.int .i64 Aw)) (fun _ hk=>hk.2) (.int .i64 Av)) (fun _ hk=>hk.2) (.int .i64 Au)) (fun _ hk=>hk.2) (.slice Cu Ag.length Cq)) (fun _ hk=>hk.2) (.slice Ct Ai.length Cp)) (fun _ hk=>hk.2) (.slice Cs Aj.length Co)) (fun _ hk=>trivial),by repeat (first|(with_reducible first|exact HB.out|apply below_alloc|apply pw_below_drewN|apply below_drew1|refine below_set ?_ (IsS84.ge Aa.out)|refine below_set ?_ Am.out|refine below_set ?_ Ao.out)|exact HB.out)⟩
             ·rw [if_neg Dp] at H
              have Gp:(Bo.toList == a0.toList) = false:=beq_eq_false_iff_ne.mpr Dp
              have Gn:(Bo.toList != a0.toList) = true:=bne_iff_ne.mpr Dp
              simp only [Option.some.injEq,Prod.mk.injEq] at H
              obtain ⟨rfl,rfl,rfl,rfl,rfl,rfl,rfl⟩:=H
              have Ri:=Ax.out
              have Qr:=Ay.out
              have Rh:=Ap.out
              have Qq:=Ae.out
              obtain ⟨Lt,Ls,Lr,Lq,Lp,Lo,Im,Il,Ik,Ij,Ii,Ih⟩:=c6_ Ah
              obtain ⟨Qj,Qa,Pi⟩:=Kd.R_slice Ab.out
              subst Pi
              obtain ⟨Qi,Pz,Ph⟩:=Kd.R_slice Ac.out
              subst Ph
              obtain ⟨Qh,Py,Pg⟩:=Kd.R_slice Af.out
              subst Pg
              go_wp2_with (first|((with_reducible refine gate_callee (f:=12) rfl ?_);refine gm_ (some 65) Tryz.func12 #[.agg #[.int .i64 Aw,.int .i64 Av,.int .i64 Au,.slice Qj Ag.length Qa,.slice Qi Ai.length Pz,.slice Qh Aj.length Py]] ?_;(with_reducible refine (record_Encode.calls k3 Aw Av Au _ _ Ag _ _ Ai _ _ Aj Bo Bn _ ?side1 ?side2 ?side3 ?side4 ?side5 ?side6 ?side7 Hl.out).mono ?_);(case side1=>exact cx_ ((Kd.R_reads' Ab.out).2.2));(case side2=>exact (Kd.R_reads' Ab.out).2.1);(case side3=>exact cx_ ((Kd.R_reads' Ac.out).2.2));(case side4=>exact (Kd.R_reads' Ac.out).2.1);(case side5=>exact cx_ ((Kd.R_reads' Af.out).2.2));(case side6=>exact (Kd.R_reads' Af.out).2.1);(case side7=>exact HLW.out.below (by repeat (first|(with_reducible first|exact HB.out|apply below_alloc|apply pw_below_drewN|apply below_drew1|refine below_set ?_ (IsS84.ge Aa.out)|refine below_set ?_ Am.out|refine below_set ?_ Ao.out)|exact HB.out)));rintro e Sx ⟨rfl,hb⟩;refine ⟨_,rfl,?_⟩;replace Ab:=rb_ Ab hb;replace Ac:=rb_ Ac hb;replace Af:=rb_ Af hb;replace Ak:=bb_ Ak hb;replace Ah:=bb_ Ah hb;replace Aa:=Aside0.mk (IsS84.below (by repeat (first|(with_reducible first|exact Aa.out|apply IsS84.alloc|apply IsS84.drewN|apply IsS84.drew|apply IsS84.set_0|apply IsS84.set_1|refine IsS84.far ?_ Ad.out _|refine IsS84.far ?_ Ae.out _)|exact Aa.out)) hb);replace HB:=Aside0.mk (below_step (by repeat (first|(with_reducible first|exact HB.out|apply below_alloc|apply pw_below_drewN|apply below_drew1|refine below_set ?_ (IsS84.ge Aa.out)|refine below_set ?_ Am.out|refine below_set ?_ Ao.out)|exact HB.out)) hb);(try clear hb);obtain ⟨Cf,Eh⟩:=Aa.out;have Ln:=cellS84_0 Cf;have Lm:=cellS84_1 Cf;have Ig:=blk_frozen Cf 0;have Ie:=blk_frozen Cf 1;clear Cf Eh;have Rg:=Aq.out;have Qp:=Ad.out;obtain ⟨Ll,Lk,Lj,Li,Lh,Lg,Id,Ic,Ib,Ia,Hz,Hy⟩:=c6_ Ak))
              refine bodyPost_ret (results_ct rfl _ _ Al 26 #[.int .i64 0,.int .i64 0,.int .i64 0,.slice none 0 0,.slice none 0 0,.slice none 0 0] (0,0) _ rfl bk_ Tryz.underlying26 rfl kr_) rfl ?_
              exact ⟨_,_,_,rf_,by first|exact Kd.R_nil _ _ _ _ _|exact Kd.N_nil _ _ _ _ _|exact Kd.V_nil _ _ _ _ _|exact Kd.Q_nil _ _ _ _ _|exact Kd.S_nil _ _ _ _ _,by first|exact Kd.R_nil _ _ _ _ _|exact Kd.N_nil _ _ _ _ _|exact Kd.V_nil _ _ _ _ _|exact Kd.Q_nil _ _ _ _ _|exact Kd.S_nil _ _ _ _ _,by first|exact Kd.R_nil _ _ _ _ _|exact Kd.N_nil _ _ _ _ _|exact Kd.V_nil _ _ _ _ _|exact Kd.Q_nil _ _ _ _ _|exact Kd.S_nil _ _ _ _ _,by repeat (first|(with_reducible first|exact HB.out|apply below_alloc|apply pw_below_drewN|apply below_drew1|refine below_set ?_ (IsS84.ge Aa.out)|refine below_set ?_ Am.out|refine below_set ?_ Ao.out)|exact HB.out)⟩
            ·rw [if_neg Dq] at H
             have Gr:(Bn == 0) = false:=beq_eq_false_iff_ne.mpr Dq
             have Gq:(Bn != 0) = true:=bne_iff_ne.mpr Dq
             simp only [Option.some.injEq,Prod.mk.injEq] at H
             obtain ⟨rfl,rfl,rfl,rfl,rfl,rfl,rfl⟩:=H
             have Rf:=Ax.out
             have Qo:=Ay.out
             have Re:=Ap.out
             have Qn:=Ae.out
             obtain ⟨Lf,Le,Ld,Lc,Lb,La,Hx,Hw,Hv,Hu,Ht,Hs⟩:=c6_ Ah
             obtain ⟨Qg,Px,Pf⟩:=Kd.R_slice Ab.out
             subst Pf
             obtain ⟨Qf,Pw,Pe⟩:=Kd.R_slice Ac.out
             subst Pe
             obtain ⟨Qe,Pv,Pd⟩:=Kd.R_slice Af.out
             subst Pd
             go_wp2_with (first|((with_reducible refine gate_callee (f:=12) rfl ?_);refine gm_ (some 65) Tryz.func12 #[.agg #[.int .i64 Aw,.int .i64 Av,.int .i64 Au,.slice Qg Ag.length Px,.slice Qf Ai.length Pw,.slice Qe Aj.length Pv]] ?_;(with_reducible refine (record_Encode.calls k3 Aw Av Au _ _ Ag _ _ Ai _ _ Aj Bo Bn _ ?side1 ?side2 ?side3 ?side4 ?side5 ?side6 ?side7 Hl.out).mono ?_);(case side1=>exact cx_ ((Kd.R_reads' Ab.out).2.2));(case side2=>exact (Kd.R_reads' Ab.out).2.1);(case side3=>exact cx_ ((Kd.R_reads' Ac.out).2.2));(case side4=>exact (Kd.R_reads' Ac.out).2.1);(case side5=>exact cx_ ((Kd.R_reads' Af.out).2.2));(case side6=>exact (Kd.R_reads' Af.out).2.1);(case side7=>exact HLW.out.below (by repeat (first|(with_reducible first|exact HB.out|apply below_alloc|apply pw_below_drewN|apply below_drew1|refine below_set ?_ (IsS84.ge Aa.out)|refine below_set ?_ Am.out|refine below_set ?_ Ao.out)|exact HB.out)));rintro e Sw ⟨rfl,hb⟩;refine ⟨_,rfl,?_⟩;replace Ab:=rb_ Ab hb;replace Ac:=rb_ Ac hb;replace Af:=rb_ Af hb;replace Ak:=bb_ Ak hb;replace Ah:=bb_ Ah hb;replace Aa:=Aside0.mk (IsS84.below (by repeat (first|(with_reducible first|exact Aa.out|apply IsS84.alloc|apply IsS84.drewN|apply IsS84.drew|apply IsS84.set_0|apply IsS84.set_1|refine IsS84.far ?_ Ad.out _|refine IsS84.far ?_ Ae.out _)|exact Aa.out)) hb);replace HB:=Aside0.mk (below_step (by repeat (first|(with_reducible first|exact HB.out|apply below_alloc|apply pw_below_drewN|apply below_drew1|refine below_set ?_ (IsS84.ge Aa.out)|refine below_set ?_ Am.out|refine below_set ?_ Ao.out)|exact HB.out)) hb);(try clear hb);obtain ⟨Ce,Eg⟩:=Aa.out;have Kz:=cellS84_0 Ce;have Ky:=cellS84_1 Ce;have Hr:=blk_frozen Ce 0;have Hq:=blk_frozen Ce 1;clear Ce Eg;have Oz:=Aq.out;have Ov:=Ad.out;obtain ⟨Gb,Ga,Fz,Fy,Fx,Fw,Fg,Ff,Fe,Fd,Fc,Fb⟩:=c6_ Ak))
             refine bodyPost_ret (results_ct rfl _ _ Al 26 #[.int .i64 0,.int .i64 0,.int .i64 0,.slice none 0 0,.slice none 0 0,.slice none 0 0] (0,0) _ rfl bk_ Tryz.underlying26 rfl kr_) rfl ?_
             exact ⟨_,_,_,rf_,by first|exact Kd.R_nil _ _ _ _ _|exact Kd.N_nil _ _ _ _ _|exact Kd.V_nil _ _ _ _ _|exact Kd.Q_nil _ _ _ _ _|exact Kd.S_nil _ _ _ _ _,by first|exact Kd.R_nil _ _ _ _ _|exact Kd.N_nil _ _ _ _ _|exact Kd.V_nil _ _ _ _ _|exact Kd.Q_nil _ _ _ _ _|exact Kd.S_nil _ _ _ _ _,by first|exact Kd.R_nil _ _ _ _ _|exact Kd.N_nil _ _ _ _ _|exact Kd.V_nil _ _ _ _ _|exact Kd.Q_nil _ _ _ _ _|exact Kd.S_nil _ _ _ _ _,by repeat (first|(with_reducible first|exact HB.out|apply below_alloc|apply pw_below_drewN|apply below_drew1|refine below_set ?_ (IsS84.ge Aa.out)|refine below_set ?_ Am.out|refine below_set ?_ Ao.out)|exact HB.out)⟩
           ·rw [if_neg Dr] at H
            have Gt:(At.toList == ([]:List UInt8)) = false:=beq_eq_false_iff_ne.mpr Dr
            have Gs:(At.toList != ([]:List UInt8)) = true:=bne_iff_ne.mpr Dr
            simp only [Option.some.injEq,Prod.mk.injEq] at H
            obtain ⟨rfl,rfl,rfl,rfl,rfl,rfl,rfl⟩:=H
            have Oy:=Ax.out
            have Ou:=Ay.out
            have Ox:=Ap.out
            have Ot:=Ae.out
            obtain ⟨Fv,Fu,Ft,Fs,Fr,Fq,Fa,Ez,Ey,Ex,Ew,Eu⟩:=c6_ Ah
            obtain ⟨Hk,Gm,Gh⟩:=Kd.R_slice Ab.out
            subst Gh
            obtain ⟨Hj,Gl,Gg⟩:=Kd.R_slice Ac.out
            subst Gg
            obtain ⟨Hi,Gk,Gf⟩:=Kd.R_slice Af.out
            subst Gf
            go_wp2_with (first|((with_reducible refine gate_callee (f:=12) rfl ?_);refine gm_ (some 65) Tryz.func12 #[.agg #[.int .i64 Aw,.int .i64 Av,.int .i64 Au,.slice Hk Ag.length Gm,.slice Hj Ai.length Gl,.slice Hi Aj.length Gk]] ?_;(with_reducible refine (record_Encode.calls k3 Aw Av Au _ _ Ag _ _ Ai _ _ Aj Bo Bn _ ?side1 ?side2 ?side3 ?side4 ?side5 ?side6 ?side7 Hl.out).mono ?_);(case side1=>exact cx_ ((Kd.R_reads' Ab.out).2.2));(case side2=>exact (Kd.R_reads' Ab.out).2.1);(case side3=>exact cx_ ((Kd.R_reads' Ac.out).2.2));(case side4=>exact (Kd.R_reads' Ac.out).2.1);(case side5=>exact cx_ ((Kd.R_reads' Af.out).2.2));(case side6=>exact (Kd.R_reads' Af.out).2.1);(case side7=>exact HLW.out.below (by repeat (first|(with_reducible first|exact HB.out|apply below_alloc|apply pw_below_drewN|apply below_drew1|refine below_set ?_ (IsS84.ge Aa.out)|refine below_set ?_ Am.out|refine below_set ?_ Ao.out)|exact HB.out)));rintro e Se ⟨rfl,hb⟩;refine ⟨_,rfl,?_⟩;replace Ab:=rb_ Ab hb;replace Ac:=rb_ Ac hb;replace Af:=rb_ Af hb;replace Ak:=bb_ Ak hb;replace Ah:=bb_ Ah hb;replace Aa:=Aside0.mk (IsS84.below (by repeat (first|(with_reducible first|exact Aa.out|apply IsS84.alloc|apply IsS84.drewN|apply IsS84.drew|apply IsS84.set_0|apply IsS84.set_1|refine IsS84.far ?_ Ad.out _|refine IsS84.far ?_ Ae.out _)|exact Aa.out)) hb);replace HB:=Aside0.mk (below_step (by repeat (first|(with_reducible first|exact HB.out|apply below_alloc|apply pw_below_drewN|apply below_drew1|refine below_set ?_ (IsS84.ge Aa.out)|refine below_set ?_ Am.out|refine below_set ?_ Ao.out)|exact HB.out)) hb);(try clear hb);obtain ⟨Bp,Dn⟩:=Aa.out;have Fp:=cellS84_0 Bp;have Fo:=cellS84_1 Bp;have Et:=blk_frozen Bp 0;have Es:=blk_frozen Bp 1;clear Bp Dn;have Ow:=Aq.out;have Oq:=Ad.out;obtain ⟨Fm,Fl,Fk,Fj,Fi,Fh,Er,Ep,Eo,Em,El,Ek⟩:=c6_ Ak))
            refine bodyPost_ret (results_ct rfl _ _ Al 26 #[.int .i64 0,.int .i64 0,.int .i64 0,.slice none 0 0,.slice none 0 0,.slice none 0 0] (0,0) _ rfl bk_ Tryz.underlying26 rfl kr_) rfl ?_
            exact ⟨_,_,_,rf_,by first|exact Kd.R_nil _ _ _ _ _|exact Kd.N_nil _ _ _ _ _|exact Kd.V_nil _ _ _ _ _|exact Kd.Q_nil _ _ _ _ _|exact Kd.S_nil _ _ _ _ _,by first|exact Kd.R_nil _ _ _ _ _|exact Kd.N_nil _ _ _ _ _|exact Kd.V_nil _ _ _ _ _|exact Kd.Q_nil _ _ _ _ _|exact Kd.S_nil _ _ _ _ _,by first|exact Kd.R_nil _ _ _ _ _|exact Kd.N_nil _ _ _ _ _|exact Kd.V_nil _ _ _ _ _|exact Kd.Q_nil _ _ _ _ _|exact Kd.S_nil _ _ _ _ _,by repeat (first|(with_reducible first|exact HB.out|apply below_alloc|apply pw_below_drewN|apply below_drew1|refine below_set ?_ (IsS84.ge Aa.out)|refine below_set ?_ Am.out|refine below_set ?_ Ao.out)|exact HB.out)⟩
end Go.Proofs.YtcmbggahndfnnaaGreatDoor.Pr
