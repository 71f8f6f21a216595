/- Part 5 of 6: walks and laws of functions that the last part joins. The words of the print (W..) are the kit's, cut down by program to what is used here. -/
import Derived.ArgAppend
import Derived.Deep.RegionHeld3
import Derived.Test.YtcmbggahndfnnaaGreatDoorEa4
namespace Go.Proofs.YtcmbggahndfnnaaGreatDoor.Pr
set_option linter.unusedVariables false
set_option linter.unusedSimpArgs false
open Go.RowKit Go.Proofs.YtcmbggahndfnnaaGreatDoorW.PrintWords Go.Proofs.YtcmbggahndfnnaaGreatDoorW.PrintLast Go.Proofs.YtcmbggahndfnnaaGreatDoorW.PrintMore
def padZ (n:Nat):Nat:=(119 - n % 64) % 64
def lenB (n:Nat) (j:Nat):List Int:=([56,48,40,32,24,16,8,0].map fun i:Nat=>((8 * n / 2 ^ i % 256:Nat):Int)).take j
def tailTo (n j:Nat):List Int:=128 :: List.replicate (padZ n) 0 ++ lenB n j
theorem tail_test {n j k:Nat} (hn:n≤1048576) (hk:k = 1 + j) (hj:j < padZ n):(((n:Int) + (k:Int)) % 64 != 56) = true:=by
 unfold padZ at hj
 rw [bne_iff_ne]
 omega
theorem tail_done {n k:Nat} (hn:n≤1048576) (hk:k = 1 + padZ n):(((n:Int) + (k:Int)) % 64 != 56) = false:=by
 unfold padZ at hk
 rw [bne_eq_false_iff_eq]
 omega
theorem padZ_lt (n:Nat):padZ n < 64:=by unfold padZ;omega
theorem tail_next (n j i:Nat) (x:Int) (hn:n≤1048576) (hj:j < 8) (hi:i = 56 - 8 * j) (hx:((8 * n / 2 ^ i % 256:Nat):Int) = x):tailTo n j ++ [x] = tailTo n (j + 1):=by
 subst hx hi
 unfold tailTo
 rw [List.append_assoc]
 congr 1
 unfold lenB
 rcases (by omega:j = 0 ∨ j = 1 ∨ j = 2 ∨ j = 3 ∨ j = 4 ∨ j = 5 ∨ j = 6 ∨ j = 7) with rfl|rfl|rfl|rfl|rfl|rfl|rfl|rfl<;>rfl
theorem msg_size (data:ByteArray):∃ nb,(data ++ strOfNums (tailTo data.size 8)).size = 64 * nb:=by
 have h1:(strOfNums (tailTo data.size 8)).size = 9 + padZ data.size:=by
  show ((List.map _ (tailTo data.size 8)).toArray).size = _
  simp [tailTo,lenB]
  omega
 rw [ByteArray.size_append,h1]
 unfold padZ
 exact ⟨(data.size + (9 + (119 - data.size % 64) % 64)) / 64,by omega⟩
theorem msg_rest (M:ByteArray) (i:Nat) (h:64 * (i + 1)≤M.size):(M.extract (64 * i) M.size).extract 64 (M.extract (64 * i) M.size).size = M.extract (64 * (i + 1)) M.size:=by
 rw [ByteArray.extract_extract,ByteArray.size_extract]
 congr 1<;>omega
theorem msg_block (M:ByteArray) (i:Nat) (h:64 * (i + 1)≤M.size):(M.extract (64 * i) M.size).extract 0 64 = M.extract (64 * i) (64 * i + 64):=by
 rw [ByteArray.extract_extract]
 congr 1<;>omega
def bytes4 (x:Int):List Int:=[x / 16777216 % 256,x / 65536 % 256,x / 256 % 256,x % 256]
def outTo (s:H8) (k:Nat):List Int:=(s.list.take k).flatMap bytes4
theorem outTo_length (s:H8) (k:Nat) (hk:k≤8):(outTo s k).length = 4 * k:=by
 unfold outTo
 rcases (by omega:k = 0 ∨ k = 1 ∨ k = 2 ∨ k = 3 ∨ k = 4 ∨ k = 5 ∨ k = 6 ∨ k = 7 ∨ k = 8) with rfl|rfl|rfl|rfl|rfl|rfl|rfl|rfl|rfl<;>rfl
def shaFold (s:H8) (m:ByteArray):Nat→H8
 | 0=>s
 | n + 1=>shaBlock (shaFold s m n) (m.extract (64 * n) (64 * n + 64))
def shaSum (data:ByteArray):ByteArray :=
 let m:=data ++ strOfNums (tailTo data.size 8)
 strOfNums (outTo (shaFold shaInit m (m.size / 64)) 8)
set_option maxHeartbeats 4000000 in
set_option maxRecDepth 100000 in
theorem sum34 (data:ByteArray) (w:World) (hn:data.size≤1048576) :
  Calls Tryz.prog 30 #[.string data] w fun e w'=>e = .returned (.string (shaSum data))∧Below w.heap.size w w':=by
 go_enter Tryz.func30,Tryz.ntmps30
 have HB:=Aside0.mk (Below.refl w.heap.size w)
 go_wp2_with (first|((with_reducible refine gate_dst (N:=15) rfl ?_);go_loud (refine Kd.R_lit (Kd.int .u8) (w0:=w) w.heap.size 5 ?hg (N:=15) ?hd (xs:=[128]) (inner:=[.int .u8 (128)]) (ok:=fun _=>True) (okp:=fun _=>True) ?hr ?hp (fun _ hk=>hk) trivial ?hB ?hS (by simp) ?_);(case hd=>rfl);(case hg=>rfl);(case hr=>first|(go_simp;done)|(go_simp;rfl));(case hp=>exact (Reps.one rfl (Reps.none _ _)));(case hB=>exact (by repeat (first|(with_reducible first|exact HB.out|apply below_alloc|apply pw_below_drewN|apply below_drew1)|exact HB.out)));(case hS=>exact (below_size (by repeat (first|(with_reducible first|exact HB.out|apply below_alloc|apply pw_below_drewN|apply below_drew1)|exact HB.out))));intro v1 w1 ho hb hg_ hn_;have BS:=Aside0.mk (blk_grown (blk_new w _) hg_ (by simp));have HO:=Aside0.mk ho;have HBn:=Aside0.mk hb;clear HB;have HB:=HBn;clear HBn ho hb hg_ hn_))
 have hz:=padZ_lt data.size
 go_loopg [5] (padZ data.size) (fun gg s5 wr=>∃ (j:Nat) (xs:List Int),j≤padZ data.size∧padZ data.size - j≤gg∧Aside0 (xs = 128 :: List.replicate j 0)
  ∧ Aside0 (Kd.R (Kd.int .u8) 5 wr w.heap.size (fun _=>True) s5 xs)∧Aside0 (wr.heap[w.heap.size]? = some (.cells #[.int .u32 1779033703,.int .u32 3144134277,.int .u32 1013904242,.int .u32 2773480762,.int .u32 1359893119,.int .u32 2600822924,.int .u32 528734635,.int .u32 1541459225] 103 (0,0)))∧Aside0 (Below w.heap.size w wr))
 case atStart=>exact ⟨0,[128],Nat.zero_le _,by omega,⟨rfl⟩,HO,BS,HB⟩
 case round =>
  clear HO BS HB
  obtain ⟨j,xs,hj,hg,HX,HO,BS,HB⟩:=hrel
  obtain ⟨A,c,hv⟩:=Kd.R_slice HO.out
  subst hv
  have hl:xs.length = 1 + j:=by rw [HX.out];simp;omega
  have HL:=Aside0.mk hl
  have hx1:xs.length≤200:=by omega
  clear hl
  by_cases hlt:j < padZ data.size
  ·have htest:=tail_test hn HL.out hlt
   go_wp2_with (first|((with_reducible refine gate_builtin (b:=.append) (xs:=#[.tmp 23,.tmp 24]) rfl ?_);at_builtin;go_loud (refine Kd.R_append (Kd.int .u8) (w0:=w) w.heap.size rfl (.tmp 23) (.tmp 24) 57 5 (.int .u8 0) 1 rfl Tryz.underlying57 info5 rfl (by decide) (by omega) (.slice A xs.length c) xs (0) [.int .u8 (0)] (fun _=>True) (fun _=>False) rfl rfl ?aP (fun _ hk=>hk.elim) ?aF ?aO ?aB ?aS ?aL ?_);(case aP=>exact rfl);(case aB=>exact (by repeat (first|(with_reducible first|exact HB.out|apply below_alloc|apply pw_below_drewN|apply below_drew1)|exact HB.out)));(case aF=>exact (fun _ _=>trivial));(case aO=>exact HO.out);(case aS=>exact (below_size (by repeat (first|(with_reducible first|exact HB.out|apply below_alloc|apply pw_below_drewN|apply below_drew1)|exact HB.out))));(case aL=>have:=hx1;omega);intro v2 w2 ho hb hg_ hat;have BS2:=Aside0.mk (blk_grown BS.out hg_ (Kd.R_ne HO.out BS.out (by decide)));have HO2:=Aside0.mk ho;have HB2:=Aside0.mk hb;clear HB HO BS;have HB:=HB2;have HO:=HO2;have BS:=BS2;clear HO2 HB2 BS2 ho hb hg_ hat))
   go_roundg (padZ data.size - (j + 1))
   case measure=>omega
   case rel =>
    exact ⟨j + 1,xs ++ [0],by omega,by omega,⟨by rw [HX.out,List.cons_append,List.replicate_succ']⟩,HO,BS,HB⟩
  ·obtain rfl:j = padZ data.size:=by omega
   have htest:=tail_done hn HL.out
   go_wp2_with fail
   have HX2:=Aside0.mk (show xs = tailTo data.size 0 from by rw [HX.out];simp [tailTo,lenB])
   clear HX htest hx1 HL
   go_loopg [5,6] 9 (fun gg s5 s6 wr=>∃ (j:Nat) (k:Int) (xs:List Int),j≤8∧9≤gg + j∧s6 = .int .i64 k∧Aside0 (k = 56 - 8 * (j:Int))∧Aside0 (xs = tailTo data.size j)
    ∧ Aside0 (Kd.R (Kd.int .u8) 5 wr w.heap.size (fun _=>True) s5 xs)∧Aside0 (wr.heap[w.heap.size]? = some (.cells #[.int .u32 1779033703,.int .u32 3144134277,.int .u32 1013904242,.int .u32 2773480762,.int .u32 1359893119,.int .u32 2600822924,.int .u32 528734635,.int .u32 1541459225] 103 (0,0)))∧Aside0 (Below w.heap.size w wr))
   case atStart=>exact ⟨0,56,xs,Nat.zero_le _,by omega,rfl,⟨rfl⟩,HX2,HO,BS,HB⟩
   case round =>
    clear HO BS HB HX2
    obtain ⟨j,k,xs,hj,hg,rfl,HK,HX,HO,BS,HB⟩:=hrel
    obtain ⟨A,c,hv⟩:=Kd.R_slice HO.out
    subst hv
    have hx1:xs.length≤200:=by rw [HX.out];have:=padZ_lt data.size;simp [tailTo,lenB];omega
    rcases (by omega:j = 0 ∨ j = 1 ∨ j = 2 ∨ j = 3 ∨ j = 4 ∨ j = 5 ∨ j = 6 ∨ j = 7 ∨ j = 8) with rfl|rfl|rfl|rfl|rfl|rfl|rfl|rfl|rfl
    ·obtain rfl:k = 56:=HK.out
     go_wp2_with (first|((with_reducible refine gate_builtin (b:=.append) (xs:=#[.tmp 30,.tmp 35]) rfl ?_);at_builtin;go_loud (refine Kd.R_append (Kd.int .u8) (w0:=w) w.heap.size rfl (.tmp 30) (.tmp 35) 57 5 (.int .u8 0) 1 rfl Tryz.underlying57 info5 rfl (by decide) (by omega) (.slice A xs.length c) xs ((data.size:Int) * 8 / 72057594037927936) [.int .u8 ((data.size:Int) * 8 / 72057594037927936)] (fun _=>True) (fun _=>False) rfl rfl ?aP (fun _ hk=>hk.elim) ?aF ?aO ?aB ?aS ?aL ?_);(case aP=>exact rfl);(case aB=>exact (by repeat (first|(with_reducible first|exact HB.out|apply below_alloc|apply pw_below_drewN|apply below_drew1)|exact HB.out)));(case aF=>exact (fun _ _=>trivial));(case aO=>exact HO.out);(case aS=>exact (below_size (by repeat (first|(with_reducible first|exact HB.out|apply below_alloc|apply pw_below_drewN|apply below_drew1)|exact HB.out))));(case aL=>have:=hx1;omega);intro v2 w2 ho hb hg_ hat;have BS2:=Aside0.mk (blk_grown BS.out hg_ (Kd.R_ne HO.out BS.out (by decide)));have HO2:=Aside0.mk ho;have HB2:=Aside0.mk hb;clear HB HO BS;have HB:=HB2;have HO:=HO2;have BS:=BS2;clear HO2 HB2 BS2 ho hb hg_ hat))
     go_roundg (9 - 1)
     case measure=>omega
     case rel =>
      refine ⟨1,48,_,by omega,by omega,rfl,⟨rfl⟩,⟨?_⟩,HO,BS,HB⟩
      rw [HX.out]
      exact tail_next data.size 0 56 _ hn (by decide) (by decide) (by omega)
    ·obtain rfl:k = 48:=HK.out
     go_wp2_with (first|((with_reducible refine gate_builtin (b:=.append) (xs:=#[.tmp 30,.tmp 35]) rfl ?_);at_builtin;go_loud (refine Kd.R_append (Kd.int .u8) (w0:=w) w.heap.size rfl (.tmp 30) (.tmp 35) 57 5 (.int .u8 0) 1 rfl Tryz.underlying57 info5 rfl (by decide) (by omega) (.slice A xs.length c) xs ((data.size:Int) * 8 / 281474976710656) [.int .u8 ((data.size:Int) * 8 / 281474976710656)] (fun _=>True) (fun _=>False) rfl rfl ?aP (fun _ hk=>hk.elim) ?aF ?aO ?aB ?aS ?aL ?_);(case aP=>exact rfl);(case aB=>exact (by repeat (first|(with_reducible first|exact HB.out|apply below_alloc|apply pw_below_drewN|apply below_drew1)|exact HB.out)));(case aF=>exact (fun _ _=>trivial));(case aO=>exact HO.out);(case aS=>exact (below_size (by repeat (first|(with_reducible first|exact HB.out|apply below_alloc|apply pw_below_drewN|apply below_drew1)|exact HB.out))));(case aL=>have:=hx1;omega);intro v2 w2 ho hb hg_ hat;have BS2:=Aside0.mk (blk_grown BS.out hg_ (Kd.R_ne HO.out BS.out (by decide)));have HO2:=Aside0.mk ho;have HB2:=Aside0.mk hb;clear HB HO BS;have HB:=HB2;have HO:=HO2;have BS:=BS2;clear HO2 HB2 BS2 ho hb hg_ hat))
     go_roundg (9 - 2)
     case measure=>omega
     case rel =>
      refine ⟨2,40,_,by omega,by omega,rfl,⟨rfl⟩,⟨?_⟩,HO,BS,HB⟩
      rw [HX.out]
      exact tail_next data.size 1 48 _ hn (by decide) (by decide) (by omega)
    ·obtain rfl:k = 40:=HK.out
     go_wp2_with (first|((with_reducible refine gate_builtin (b:=.append) (xs:=#[.tmp 30,.tmp 35]) rfl ?_);at_builtin;go_loud (refine Kd.R_append (Kd.int .u8) (w0:=w) w.heap.size rfl (.tmp 30) (.tmp 35) 57 5 (.int .u8 0) 1 rfl Tryz.underlying57 info5 rfl (by decide) (by omega) (.slice A xs.length c) xs ((data.size:Int) * 8 / 1099511627776) [.int .u8 ((data.size:Int) * 8 / 1099511627776)] (fun _=>True) (fun _=>False) rfl rfl ?aP (fun _ hk=>hk.elim) ?aF ?aO ?aB ?aS ?aL ?_);(case aP=>exact rfl);(case aB=>exact (by repeat (first|(with_reducible first|exact HB.out|apply below_alloc|apply pw_below_drewN|apply below_drew1)|exact HB.out)));(case aF=>exact (fun _ _=>trivial));(case aO=>exact HO.out);(case aS=>exact (below_size (by repeat (first|(with_reducible first|exact HB.out|apply below_alloc|apply pw_below_drewN|apply below_drew1)|exact HB.out))));(case aL=>have:=hx1;omega);intro v2 w2 ho hb hg_ hat;have BS2:=Aside0.mk (blk_grown BS.out hg_ (Kd.R_ne HO.out BS.out (by decide)));have HO2:=Aside0.mk ho;have HB2:=Aside0.mk hb;clear HB HO BS;have HB:=HB2;have HO:=HO2;have BS:=BS2;clear HO2 HB2 BS2 ho hb hg_ hat))
     go_roundg (9 - 3)
     case measure=>omega
     case rel =>
      refine ⟨3,32,_,by omega,by omega,rfl,⟨rfl⟩,⟨?_⟩,HO,BS,HB⟩
      rw [HX.out]
      exact tail_next data.size 2 40 _ hn (by decide) (by decide) (by omega)
    ·obtain rfl:k = 32:=HK.out
     go_wp2_with (first|((with_reducible refine gate_builtin (b:=.append) (xs:=#[.tmp 30,.tmp 35]) rfl ?_);at_builtin;go_loud (refine Kd.R_append (Kd.int .u8) (w0:=w) w.heap.size rfl (.tmp 30) (.tmp 35) 57 5 (.int .u8 0) 1 rfl Tryz.underlying57 info5 rfl (by decide) (by omega) (.slice A xs.length c) xs ((data.size:Int) * 8 / 4294967296) [.int .u8 ((data.size:Int) * 8 / 4294967296)] (fun _=>True) (fun _=>False) rfl rfl ?aP (fun _ hk=>hk.elim) ?aF ?aO ?aB ?aS ?aL ?_);(case aP=>exact rfl);(case aB=>exact (by repeat (first|(with_reducible first|exact HB.out|apply below_alloc|apply pw_below_drewN|apply below_drew1)|exact HB.out)));(case aF=>exact (fun _ _=>trivial));(case aO=>exact HO.out);(case aS=>exact (below_size (by repeat (first|(with_reducible first|exact HB.out|apply below_alloc|apply pw_below_drewN|apply below_drew1)|exact HB.out))));(case aL=>have:=hx1;omega);intro v2 w2 ho hb hg_ hat;have BS2:=Aside0.mk (blk_grown BS.out hg_ (Kd.R_ne HO.out BS.out (by decide)));have HO2:=Aside0.mk ho;have HB2:=Aside0.mk hb;clear HB HO BS;have HB:=HB2;have HO:=HO2;have BS:=BS2;clear HO2 HB2 BS2 ho hb hg_ hat))
     go_roundg (9 - 4)
     case measure=>omega
     case rel =>
      refine ⟨4,24,_,by omega,by omega,rfl,⟨rfl⟩,⟨?_⟩,HO,BS,HB⟩
      rw [HX.out]
      exact tail_next data.size 3 32 _ hn (by decide) (by decide) (by omega)
    ·obtain rfl:k = 24:=HK.out
     go_wp2_with (first|((with_reducible refine gate_builtin (b:=.append) (xs:=#[.tmp 30,.tmp 35]) rfl ?_);at_builtin;go_loud (refine Kd.R_append (Kd.int .u8) (w0:=w) w.heap.size rfl (.tmp 30) (.tmp 35) 57 5 (.int .u8 0) 1 rfl Tryz.underlying57 info5 rfl (by decide) (by omega) (.slice A xs.length c) xs ((data.size:Int) * 8 / 16777216) [.int .u8 ((data.size:Int) * 8 / 16777216)] (fun _=>True) (fun _=>False) rfl rfl ?aP (fun _ hk=>hk.elim) ?aF ?aO ?aB ?aS ?aL ?_);(case aP=>exact rfl);(case aB=>exact (by repeat (first|(with_reducible first|exact HB.out|apply below_alloc|apply pw_below_drewN|apply below_drew1)|exact HB.out)));(case aF=>exact (fun _ _=>trivial));(case aO=>exact HO.out);(case aS=>exact (below_size (by repeat (first|(with_reducible first|exact HB.out|apply below_alloc|apply pw_below_drewN|apply below_drew1)|exact HB.out))));(case aL=>have:=hx1;omega);intro v2 w2 ho hb hg_ hat;have BS2:=Aside0.mk (blk_grown BS.out hg_ (Kd.R_ne HO.out BS.out (by decide)));have HO2:=Aside0.mk ho;have HB2:=Aside0.mk hb;clear HB HO BS;have HB:=HB2;have HO:=HO2;have BS:=BS2;clear HO2 HB2 BS2 ho hb hg_ hat))
     go_roundg (9 - 5)
     case measure=>omega
     case rel =>
      refine ⟨5,16,_,by omega,by omega,rfl,⟨rfl⟩,⟨?_⟩,HO,BS,HB⟩
      rw [HX.out]
      exact tail_next data.size 4 24 _ hn (by decide) (by decide) (by omega)
    ·obtain rfl:k = 16:=HK.out
     go_wp2_with (first|((with_reducible refine gate_builtin (b:=.append) (xs:=#[.tmp 30,.tmp 35]) rfl ?_);at_builtin;go_loud (refine Kd.R_append (Kd.int .u8) (w0:=w) w.heap.size rfl (.tmp 30) (.tmp 35) 57 5 (.int .u8 0) 1 rfl Tryz.underlying57 info5 rfl (by decide) (by omega) (.slice A xs.length c) xs ((data.size:Int) * 8 / 65536) [.int .u8 ((data.size:Int) * 8 / 65536)] (fun _=>True) (fun _=>False) rfl rfl ?aP (fun _ hk=>hk.elim) ?aF ?aO ?aB ?aS ?aL ?_);(case aP=>exact rfl);(case aB=>exact (by repeat (first|(with_reducible first|exact HB.out|apply below_alloc|apply pw_below_drewN|apply below_drew1)|exact HB.out)));(case aF=>exact (fun _ _=>trivial));(case aO=>exact HO.out);(case aS=>exact (below_size (by repeat (first|(with_reducible first|exact HB.out|apply below_alloc|apply pw_below_drewN|apply below_drew1)|exact HB.out))));(case aL=>have:=hx1;omega);intro v2 w2 ho hb hg_ hat;have BS2:=Aside0.mk (blk_grown BS.out hg_ (Kd.R_ne HO.out BS.out (by decide)));have HO2:=Aside0.mk ho;have HB2:=Aside0.mk hb;clear HB HO BS;have HB:=HB2;have HO:=HO2;have BS:=BS2;clear HO2 HB2 BS2 ho hb hg_ hat))
     go_roundg (9 - 6)
     case measure=>omega
     case rel =>
      refine ⟨6,8,_,by omega,by omega,rfl,⟨rfl⟩,⟨?_⟩,HO,BS,HB⟩
      rw [HX.out]
      exact tail_next data.size 5 16 _ hn (by decide) (by decide) (by omega)
    ·obtain rfl:k = 8:=HK.out
     go_wp2_with (first|((with_reducible refine gate_builtin (b:=.append) (xs:=#[.tmp 30,.tmp 35]) rfl ?_);at_builtin;go_loud (refine Kd.R_append (Kd.int .u8) (w0:=w) w.heap.size rfl (.tmp 30) (.tmp 35) 57 5 (.int .u8 0) 1 rfl Tryz.underlying57 info5 rfl (by decide) (by omega) (.slice A xs.length c) xs ((data.size:Int) * 8 / 256 % 256) [.int .u8 ((data.size:Int) * 8 / 256 % 256)] (fun _=>True) (fun _=>False) rfl rfl ?aP (fun _ hk=>hk.elim) ?aF ?aO ?aB ?aS ?aL ?_);(case aP=>exact rfl);(case aB=>exact (by repeat (first|(with_reducible first|exact HB.out|apply below_alloc|apply pw_below_drewN|apply below_drew1)|exact HB.out)));(case aF=>exact (fun _ _=>trivial));(case aO=>exact HO.out);(case aS=>exact (below_size (by repeat (first|(with_reducible first|exact HB.out|apply below_alloc|apply pw_below_drewN|apply below_drew1)|exact HB.out))));(case aL=>have:=hx1;omega);intro v2 w2 ho hb hg_ hat;have BS2:=Aside0.mk (blk_grown BS.out hg_ (Kd.R_ne HO.out BS.out (by decide)));have HO2:=Aside0.mk ho;have HB2:=Aside0.mk hb;clear HB HO BS;have HB:=HB2;have HO:=HO2;have BS:=BS2;clear HO2 HB2 BS2 ho hb hg_ hat))
     go_roundg (9 - 7)
     case measure=>omega
     case rel =>
      refine ⟨7,0,_,by omega,by omega,rfl,⟨rfl⟩,⟨?_⟩,HO,BS,HB⟩
      rw [HX.out]
      exact tail_next data.size 6 8 _ hn (by decide) (by decide) (by omega)
    ·obtain rfl:k = 0:=HK.out
     go_wp2_with (first|((with_reducible refine gate_builtin (b:=.append) (xs:=#[.tmp 30,.tmp 35]) rfl ?_);at_builtin;go_loud (refine Kd.R_append (Kd.int .u8) (w0:=w) w.heap.size rfl (.tmp 30) (.tmp 35) 57 5 (.int .u8 0) 1 rfl Tryz.underlying57 info5 rfl (by decide) (by omega) (.slice A xs.length c) xs ((data.size:Int) * 8 % 256) [.int .u8 ((data.size:Int) * 8 % 256)] (fun _=>True) (fun _=>False) rfl rfl ?aP (fun _ hk=>hk.elim) ?aF ?aO ?aB ?aS ?aL ?_);(case aP=>exact rfl);(case aB=>exact (by repeat (first|(with_reducible first|exact HB.out|apply below_alloc|apply pw_below_drewN|apply below_drew1)|exact HB.out)));(case aF=>exact (fun _ _=>trivial));(case aO=>exact HO.out);(case aS=>exact (below_size (by repeat (first|(with_reducible first|exact HB.out|apply below_alloc|apply pw_below_drewN|apply below_drew1)|exact HB.out))));(case aL=>have:=hx1;omega);intro v2 w2 ho hb hg_ hat;have BS2:=Aside0.mk (blk_grown BS.out hg_ (Kd.R_ne HO.out BS.out (by decide)));have HO2:=Aside0.mk ho;have HB2:=Aside0.mk hb;clear HB HO BS;have HB:=HB2;have HO:=HO2;have BS:=BS2;clear HO2 HB2 BS2 ho hb hg_ hat))
     go_roundg (9 - 8)
     case measure=>omega
     case rel =>
      refine ⟨8,-8,_,by omega,by omega,rfl,⟨rfl⟩,⟨?_⟩,HO,BS,HB⟩
      rw [HX.out]
      exact tail_next data.size 7 0 _ hn (by decide) (by decide) (by omega)
    ·obtain rfl:k = -8:=HK.out
     have hcv:=Kd.C_string (P:=Tryz.prog) (A:=A) (c:=c) Tryz.underlying57 Tryz.underlying5 Tryz.underlying9 (Kd.R_reads' HO.out).2.2
     have HX0:=HX
     generalize hts:strOfNums xs = ts at hcv
     have HTS:=Aside0.mk hts
     clear hts
     have htz:ts.size≤200:=by rw [← HTS.out];show ((xs.map _).toArray).size≤200;simp;exact hx1
     go_wp2_with fail
     obtain ⟨nb,hnb⟩:∃ nb,(data ++ ts).size = 64 * nb:=by
      rw [← HTS.out,HX.out]
      exact msg_size data
     generalize hM:data ++ ts = M at hnb
     have HM:=Aside0.mk hM
     have hnb1:nb≤20000:=by
      have h1:(data ++ ts).size = data.size + ts.size:=ByteArray.size_append
      rw [hM] at h1
      omega
     have HNB:=Aside0.mk hnb
     clear hM hnb HO hcv hx1 htz
     have BS1:Aside0 (wr.heap[w.heap.size]? = some (.cells (shaFold shaInit M 0).cells 103 (0,0))):=BS
     go_loopg [0] nb (fun gg s0 wr=>∃ (i:Nat) (d:ByteArray),i≤nb∧nb - i≤gg∧s0 = .string d∧Aside0 (d = M.extract (64 * i) M.size)
      ∧ Aside0 (wr.heap[w.heap.size]? = some (.cells (shaFold shaInit M i).cells 103 (0,0)))∧Aside0 (Below w.heap.size w wr))
     case atStart=>exact ⟨0,M,Nat.zero_le _,by omega,rfl,⟨by simp⟩,BS1,HB⟩
     case round =>
      clear BS BS1 HB
      obtain ⟨i,d,hi,hg,rfl,HD,BS,HB⟩:=hrel
      have hds:d.size = 64 * (nb - i):=by rw [HD.out,ByteArray.size_extract,HNB.out];omega
      by_cases hlt:i < nb
      ·have hds1:64≤d.size:=by omega
       have hds2:d.size≤1280000:=by omega
       have hds3:(64:Int)≤(d.size:Int):=by omega
       have HDS:=Aside0.mk hds
       clear hds
       have hne:¬ d.toList = []:=by
        intro h
        have h2:d.toList.length = 0:=by rw [h];rfl
        rw [ByteArray.toList_eq] at h2
        have h3:d.data.toList.length = d.size:=rfl
        omega
       have hne2:(!d.toList.isEmpty) = true:=by simp [hne]
       have hst:=BS.out
       generalize hs:shaFold shaInit M i = st at hst
       have HS:=Aside0.mk hs
       clear hs BS
       obtain ⟨a,b,c',d',e,f,g,h⟩:=st
       have c0:wr.cell? ⟨w.heap.size,0,none⟩ = some (.int .u32 a):=blk_cell hst 0
       have c1:wr.cell? ⟨w.heap.size,1,none⟩ = some (.int .u32 b):=blk_cell hst 1
       have c2:wr.cell? ⟨w.heap.size,2,none⟩ = some (.int .u32 c'):=blk_cell hst 2
       have c3:wr.cell? ⟨w.heap.size,3,none⟩ = some (.int .u32 d'):=blk_cell hst 3
       have c4:wr.cell? ⟨w.heap.size,4,none⟩ = some (.int .u32 e):=blk_cell hst 4
       have c5:wr.cell? ⟨w.heap.size,5,none⟩ = some (.int .u32 f):=blk_cell hst 5
       have c6:wr.cell? ⟨w.heap.size,6,none⟩ = some (.int .u32 g):=blk_cell hst 6
       have c7:wr.cell? ⟨w.heap.size,7,none⟩ = some (.int .u32 h):=blk_cell hst 7
       have BS:=Aside0.mk hst
       clear hst
       go_wp2_with fail
       go_still_tail 3,(by kernel_rfl)
       change wpList _ _ _ _ _ wr.drew
       replace HB:=Aside0.mk (below_drew1 HB.out)
       replace BS:=Aside0.mk (blk_drew BS.out)
       generalize wr.drew = W at HB BS ⊢
       clear c0 c1 c2 c3 c4 c5 c6 c7
       have hex:(d.extract 0 64).size = 64:=by rw [ByteArray.size_extract];omega
       go_wp2_with fail
       refine (block56 ⟨a,b,c',d',e,f,g,h⟩ (d.extract 0 64) W hex).mono ?_
       rintro e1 w1 ⟨rfl,hb1⟩
       have HB1:=Aside0.mk (below_step HB.out hb1)
       have BS1:=Aside0.mk (blk_below BS.out hb1)
       clear hb1 HB BS hex
       generalize hns:shaBlock ⟨a,b,c',d',e,f,g,h⟩ (d.extract 0 64) = ns
       have HNS:=Aside0.mk hns
       clear hns
       obtain ⟨n0,n1,n2,n3,n4,n5,n6,n7⟩:=ns
       go_wp2_with (((with_reducible refine gate_store (t:=103) (p:=3) (v:=.tmp 48) rfl ?_);refine store_event rfl 103 (.tmp 3) (.tmp 48) rfl rfl w.heap.size #[.int .u32 n0,.int .u32 n1,.int .u32 n2,.int .u32 n3,.int .u32 n4,.int .u32 n5,.int .u32 n6,.int .u32 n7] rfl rfl 103 _ BS1.out (by kernel_rfl) (by rfl) (by simp [Value.oneCell']) ?_;intro w6 hb6 hG6))
       go_roundg (nb - (i + 1))
       case measure=>omega
       case rel =>
        refine ⟨i + 1,_,by omega,by omega,rfl,⟨?_⟩,⟨?_⟩,⟨pw_below_grown HB1.out _ HB1.out.size hG6 (fun k hk=>by injection hk with hk;omega)⟩⟩
        ·rw [HD.out]
         exact msg_rest M i (by have:=HNB.out;omega)
        ·rw [hb6]
         show some (Obj.cells (H8.cells ⟨n0,n1,n2,n3,n4,n5,n6,n7⟩) 103) = _
         unfold shaFold
         rw [HS.out,← HNS.out,HD.out,msg_block M i (by have:=HNB.out;omega)]
      ·obtain rfl:i = nb:=by omega
       have hds1:d.size = 0:=by omega
       have hde:d = ⟨#[]⟩:=by
        rcases d with ⟨⟨l⟩⟩
        have:l.length = 0:=hds1
        cases l with
        | nil=>rfl
        | cons x l=>simp at this
       subst hde
       clear hds hds1 HD
       have hst:=BS.out
       generalize hs:shaFold shaInit M i = st at hst
       have HS:=Aside0.mk hs
       clear hs BS
       obtain ⟨a0,a1,a2,a3,a4,a5,a6,a7⟩:=st
       have c0:wr.cell? ⟨w.heap.size,0,none⟩ = some (.int .u32 a0):=blk_cell hst 0
       have c1:wr.cell? ⟨w.heap.size,1,none⟩ = some (.int .u32 a1):=blk_cell hst 1
       have c2:wr.cell? ⟨w.heap.size,2,none⟩ = some (.int .u32 a2):=blk_cell hst 2
       have c3:wr.cell? ⟨w.heap.size,3,none⟩ = some (.int .u32 a3):=blk_cell hst 3
       have c4:wr.cell? ⟨w.heap.size,4,none⟩ = some (.int .u32 a4):=blk_cell hst 4
       have c5:wr.cell? ⟨w.heap.size,5,none⟩ = some (.int .u32 a5):=blk_cell hst 5
       have c6:wr.cell? ⟨w.heap.size,6,none⟩ = some (.int .u32 a6):=blk_cell hst 6
       have c7:wr.cell? ⟨w.heap.size,7,none⟩ = some (.int .u32 a7):=blk_cell hst 7
       clear hst
       go_wp2_with fail
       clear c0 c1 c2 c3 c4 c5 c6 c7
       have HO:=Aside0.mk (Kd.R_nil (Kd.int .u8) 5 wr w.heap.size (fun _=>True))
       go_loopg [7,50] 9 (fun gg s7 s50 wr=>∃ (k:Nat) (xs:List Int),k≤8∧9≤gg + k∧s50 = .int .i64 k∧Aside0 (xs = outTo ⟨a0,a1,a2,a3,a4,a5,a6,a7⟩ k)
        ∧ Aside0 (Kd.R (Kd.int .u8) 5 wr w.heap.size (fun _=>True) s7 xs)∧Aside0 (Below w.heap.size w wr))
       case atStart=>exact ⟨0,[],by omega,by omega,rfl,⟨rfl⟩,HO,HB⟩
       case round =>
        clear HO HB
        obtain ⟨k,xs,hk,hg,rfl,HX,HO,HB⟩:=hrel
        obtain ⟨A,c,hv⟩:=Kd.R_slice HO.out
        subst hv
        have hx1:xs.length≤40:=by rw [HX.out,outTo_length _ _ hk];omega
        rcases (by omega:k = 0 ∨ k = 1 ∨ k = 2 ∨ k = 3 ∨ k = 4 ∨ k = 5 ∨ k = 6 ∨ k = 7 ∨ k = 8) with rfl|rfl|rfl|rfl|rfl|rfl|rfl|rfl|rfl
        ·have ix:∀ W,(Instr.index 103 (.agg #[.int .u32 a0,.int .u32 a1,.int .u32 a2,.int .u32 a3,.int .u32 a4,.int .u32 a5,.int .u32 a6,.int .u32 a7]) (.int .i64 0)).run Tryz.prog W = .ok (.int .u32 a0) W:=fun _=>by kernel_rfl
         go_wp2_with (first|((with_reducible refine gate_builtin (b:=.append) (xs:=#[.tmp 53,.tmp 65]) rfl ?_);at_builtin;refine Kd.R_append_row (Value.int .u8) (0:Int) (h1:=fun _=>rfl) (w0:=w) w.heap.size rfl (.tmp 53) (.tmp 65) 57 5 (.int .u8 0) 1 rfl Tryz.underlying57 info5 rfl (by decide) (.slice A xs.length c) xs ([a0 / 16777216 % 256,a0 / 65536 % 256,a0 / 256 % 256,a0 % 256]:List Int) (some ⟨wr.heap.size,0,none⟩) 4 4 (fun _=>True) rfl rfl (fun _ _=>trivial) ?aO ?aR ?aB ?aS ?aL ?_;(case aO=>exact Kd.R_alloc HO.out _);(case aR=>exact C_of_blk (blk_new wr _) rfl (by omega));(case aB=>exact (by repeat (first|(with_reducible first|exact HB.out|apply below_alloc|apply pw_below_drewN|apply below_drew1)|exact HB.out)));(case aS=>exact (below_size (by repeat (first|(with_reducible first|exact HB.out|apply below_alloc|apply pw_below_drewN|apply below_drew1)|exact HB.out))));(case aL=>have:=hx1;omega);intro v2 w2 ho hb hg_ hat;have HO2:=Aside0.mk ho;have HB2:=Aside0.mk hb;clear HB HO;have HB:=HB2;have HO:=HO2;clear HO2 HB2 ho hb hg_ hat))
         go_roundg (9 - 1)
         case measure=>omega
         case rel=>exact ⟨1,_,by omega,by omega,rfl,⟨by rw [HX.out];rfl⟩,HO,HB⟩
        ·have ix:∀ W,(Instr.index 103 (.agg #[.int .u32 a0,.int .u32 a1,.int .u32 a2,.int .u32 a3,.int .u32 a4,.int .u32 a5,.int .u32 a6,.int .u32 a7]) (.int .i64 1)).run Tryz.prog W = .ok (.int .u32 a1) W:=fun _=>by kernel_rfl
         go_wp2_with (first|((with_reducible refine gate_builtin (b:=.append) (xs:=#[.tmp 53,.tmp 65]) rfl ?_);at_builtin;refine Kd.R_append_row (Value.int .u8) (0:Int) (h1:=fun _=>rfl) (w0:=w) w.heap.size rfl (.tmp 53) (.tmp 65) 57 5 (.int .u8 0) 1 rfl Tryz.underlying57 info5 rfl (by decide) (.slice A xs.length c) xs ([a1 / 16777216 % 256,a1 / 65536 % 256,a1 / 256 % 256,a1 % 256]:List Int) (some ⟨wr.heap.size,0,none⟩) 4 4 (fun _=>True) rfl rfl (fun _ _=>trivial) ?aO ?aR ?aB ?aS ?aL ?_;(case aO=>exact Kd.R_alloc HO.out _);(case aR=>exact C_of_blk (blk_new wr _) rfl (by omega));(case aB=>exact (by repeat (first|(with_reducible first|exact HB.out|apply below_alloc|apply pw_below_drewN|apply below_drew1)|exact HB.out)));(case aS=>exact (below_size (by repeat (first|(with_reducible first|exact HB.out|apply below_alloc|apply pw_below_drewN|apply below_drew1)|exact HB.out))));(case aL=>have:=hx1;omega);intro v2 w2 ho hb hg_ hat;have HO2:=Aside0.mk ho;have HB2:=Aside0.mk hb;clear HB HO;have HB:=HB2;have HO:=HO2;clear HO2 HB2 ho hb hg_ hat))
         go_roundg (9 - 2)
         case measure=>omega
         case rel=>exact ⟨2,_,by omega,by omega,rfl,⟨by rw [HX.out];rfl⟩,HO,HB⟩
        ·have ix:∀ W,(Instr.index 103 (.agg #[.int .u32 a0,.int .u32 a1,.int .u32 a2,.int .u32 a3,.int .u32 a4,.int .u32 a5,.int .u32 a6,.int .u32 a7]) (.int .i64 2)).run Tryz.prog W = .ok (.int .u32 a2) W:=fun _=>by kernel_rfl
         go_wp2_with (first|((with_reducible refine gate_builtin (b:=.append) (xs:=#[.tmp 53,.tmp 65]) rfl ?_);at_builtin;refine Kd.R_append_row (Value.int .u8) (0:Int) (h1:=fun _=>rfl) (w0:=w) w.heap.size rfl (.tmp 53) (.tmp 65) 57 5 (.int .u8 0) 1 rfl Tryz.underlying57 info5 rfl (by decide) (.slice A xs.length c) xs ([a2 / 16777216 % 256,a2 / 65536 % 256,a2 / 256 % 256,a2 % 256]:List Int) (some ⟨wr.heap.size,0,none⟩) 4 4 (fun _=>True) rfl rfl (fun _ _=>trivial) ?aO ?aR ?aB ?aS ?aL ?_;(case aO=>exact Kd.R_alloc HO.out _);(case aR=>exact C_of_blk (blk_new wr _) rfl (by omega));(case aB=>exact (by repeat (first|(with_reducible first|exact HB.out|apply below_alloc|apply pw_below_drewN|apply below_drew1)|exact HB.out)));(case aS=>exact (below_size (by repeat (first|(with_reducible first|exact HB.out|apply below_alloc|apply pw_below_drewN|apply below_drew1)|exact HB.out))));(case aL=>have:=hx1;omega);intro v2 w2 ho hb hg_ hat;have HO2:=Aside0.mk ho;have HB2:=Aside0.mk hb;clear HB HO;have HB:=HB2;have HO:=HO2;clear HO2 HB2 ho hb hg_ hat))
         go_roundg (9 - 3)
         case measure=>omega
         case rel=>exact ⟨3,_,by omega,by omega,rfl,⟨by rw [HX.out];rfl⟩,HO,HB⟩
        ·have ix:∀ W,(Instr.index 103 (.agg #[.int .u32 a0,.int .u32 a1,.int .u32 a2,.int .u32 a3,.int .u32 a4,.int .u32 a5,.int .u32 a6,.int .u32 a7]) (.int .i64 3)).run Tryz.prog W = .ok (.int .u32 a3) W:=fun _=>by kernel_rfl
         go_wp2_with (first|((with_reducible refine gate_builtin (b:=.append) (xs:=#[.tmp 53,.tmp 65]) rfl ?_);at_builtin;refine Kd.R_append_row (Value.int .u8) (0:Int) (h1:=fun _=>rfl) (w0:=w) w.heap.size rfl (.tmp 53) (.tmp 65) 57 5 (.int .u8 0) 1 rfl Tryz.underlying57 info5 rfl (by decide) (.slice A xs.length c) xs ([a3 / 16777216 % 256,a3 / 65536 % 256,a3 / 256 % 256,a3 % 256]:List Int) (some ⟨wr.heap.size,0,none⟩) 4 4 (fun _=>True) rfl rfl (fun _ _=>trivial) ?aO ?aR ?aB ?aS ?aL ?_;(case aO=>exact Kd.R_alloc HO.out _);(case aR=>exact C_of_blk (blk_new wr _) rfl (by omega));(case aB=>exact (by repeat (first|(with_reducible first|exact HB.out|apply below_alloc|apply pw_below_drewN|apply below_drew1)|exact HB.out)));(case aS=>exact (below_size (by repeat (first|(with_reducible first|exact HB.out|apply below_alloc|apply pw_below_drewN|apply below_drew1)|exact HB.out))));(case aL=>have:=hx1;omega);intro v2 w2 ho hb hg_ hat;have HO2:=Aside0.mk ho;have HB2:=Aside0.mk hb;clear HB HO;have HB:=HB2;have HO:=HO2;clear HO2 HB2 ho hb hg_ hat))
         go_roundg (9 - 4)
         case measure=>omega
         case rel=>exact ⟨4,_,by omega,by omega,rfl,⟨by rw [HX.out];rfl⟩,HO,HB⟩
        ·have ix:∀ W,(Instr.index 103 (.agg #[.int .u32 a0,.int .u32 a1,.int .u32 a2,.int .u32 a3,.int .u32 a4,.int .u32 a5,.int .u32 a6,.int .u32 a7]) (.int .i64 4)).run Tryz.prog W = .ok (.int .u32 a4) W:=fun _=>by kernel_rfl
         go_wp2_with (first|((with_reducible refine gate_builtin (b:=.append) (xs:=#[.tmp 53,.tmp 65]) rfl ?_);at_builtin;refine Kd.R_append_row (Value.int .u8) (0:Int) (h1:=fun _=>rfl) (w0:=w) w.heap.size rfl (.tmp 53) (.tmp 65) 57 5 (.int .u8 0) 1 rfl Tryz.underlying57 info5 rfl (by decide) (.slice A xs.length c) xs ([a4 / 16777216 % 256,a4 / 65536 % 256,a4 / 256 % 256,a4 % 256]:List Int) (some ⟨wr.heap.size,0,none⟩) 4 4 (fun _=>True) rfl rfl (fun _ _=>trivial) ?aO ?aR ?aB ?aS ?aL ?_;(case aO=>exact Kd.R_alloc HO.out _);(case aR=>exact C_of_blk (blk_new wr _) rfl (by omega));(case aB=>exact (by repeat (first|(with_reducible first|exact HB.out|apply below_alloc|apply pw_below_drewN|apply below_drew1)|exact HB.out)));(case aS=>exact (below_size (by repeat (first|(with_reducible first|exact HB.out|apply below_alloc|apply pw_below_drewN|apply below_drew1)|exact HB.out))));(case aL=>have:=hx1;omega);intro v2 w2 ho hb hg_ hat;have HO2:=Aside0.mk ho;have HB2:=Aside0.mk hb;clear HB HO;have HB:=HB2;have HO:=HO2;clear HO2 HB2 ho hb hg_ hat))
         go_roundg (9 - 5)
         case measure=>omega
         case rel=>exact ⟨5,_,by omega,by omega,rfl,⟨by rw [HX.out];rfl⟩,HO,HB⟩
        ·have ix:∀ W,(Instr.index 103 (.agg #[.int .u32 a0,.int .u32 a1,.int .u32 a2,.int .u32 a3,.int .u32 a4,.int .u32 a5,.int .u32 a6,.int .u32 a7]) (.int .i64 5)).run Tryz.prog W = .ok (.int .u32 a5) W:=fun _=>by kernel_rfl
         go_wp2_with (first|((with_reducible refine gate_builtin (b:=.append) (xs:=#[.tmp 53,.tmp 65]) rfl ?_);at_builtin;refine Kd.R_append_row (Value.int .u8) (0:Int) (h1:=fun _=>rfl) (w0:=w) w.heap.size rfl (.tmp 53) (.tmp 65) 57 5 (.int .u8 0) 1 rfl Tryz.underlying57 info5 rfl (by decide) (.slice A xs.length c) xs ([a5 / 16777216 % 256,a5 / 65536 % 256,a5 / 256 % 256,a5 % 256]:List Int) (some ⟨wr.heap.size,0,none⟩) 4 4 (fun _=>True) rfl rfl (fun _ _=>trivial) ?aO ?aR ?aB ?aS ?aL ?_;(case aO=>exact Kd.R_alloc HO.out _);(case aR=>exact C_of_blk (blk_new wr _) rfl (by omega));(case aB=>exact (by repeat (first|(with_reducible first|exact HB.out|apply below_alloc|apply pw_below_drewN|apply below_drew1)|exact HB.out)));(case aS=>exact (below_size (by repeat (first|(with_reducible first|exact HB.out|apply below_alloc|apply pw_below_drewN|apply below_drew1)|exact HB.out))));(case aL=>have:=hx1;omega);intro v2 w2 ho hb hg_ hat;have HO2:=Aside0.mk ho;have HB2:=Aside0.mk hb;clear HB HO;have HB:=HB2;have HO:=HO2;clear HO2 HB2 ho hb hg_ hat))
         go_roundg (9 - 6)
         case measure=>omega
         case rel=>exact ⟨6,_,by omega,by omega,rfl,⟨by rw [HX.out];rfl⟩,HO,HB⟩
        ·have ix:∀ W,(Instr.index 103 (.agg #[.int .u32 a0,.int .u32 a1,.int .u32 a2,.int .u32 a3,.int .u32 a4,.int .u32 a5,.int .u32 a6,.int .u32 a7]) (.int .i64 6)).run Tryz.prog W = .ok (.int .u32 a6) W:=fun _=>by kernel_rfl
         go_wp2_with (first|((with_reducible refine gate_builtin (b:=.append) (xs:=#[.tmp 53,.tmp 65]) rfl ?_);at_builtin;refine Kd.R_append_row (Value.int .u8) (0:Int) (h1:=fun _=>rfl) (w0:=w) w.heap.size rfl (.tmp 53) (.tmp 65) 57 5 (.int .u8 0) 1 rfl Tryz.underlying57 info5 rfl (by decide) (.slice A xs.length c) xs ([a6 / 16777216 % 256,a6 / 65536 % 256,a6 / 256 % 256,a6 % 256]:List Int) (some ⟨wr.heap.size,0,none⟩) 4 4 (fun _=>True) rfl rfl (fun _ _=>trivial) ?aO ?aR ?aB ?aS ?aL ?_;(case aO=>exact Kd.R_alloc HO.out _);(case aR=>exact C_of_blk (blk_new wr _) rfl (by omega));(case aB=>exact (by repeat (first|(with_reducible first|exact HB.out|apply below_alloc|apply pw_below_drewN|apply below_drew1)|exact HB.out)));(case aS=>exact (below_size (by repeat (first|(with_reducible first|exact HB.out|apply below_alloc|apply pw_below_drewN|apply below_drew1)|exact HB.out))));(case aL=>have:=hx1;omega);intro v2 w2 ho hb hg_ hat;have HO2:=Aside0.mk ho;have HB2:=Aside0.mk hb;clear HB HO;have HB:=HB2;have HO:=HO2;clear HO2 HB2 ho hb hg_ hat))
         go_roundg (9 - 7)
         case measure=>omega
         case rel=>exact ⟨7,_,by omega,by omega,rfl,⟨by rw [HX.out];rfl⟩,HO,HB⟩
        ·have ix:∀ W,(Instr.index 103 (.agg #[.int .u32 a0,.int .u32 a1,.int .u32 a2,.int .u32 a3,.int .u32 a4,.int .u32 a5,.int .u32 a6,.int .u32 a7]) (.int .i64 7)).run Tryz.prog W = .ok (.int .u32 a7) W:=fun _=>by kernel_rfl
         go_wp2_with (first|((with_reducible refine gate_builtin (b:=.append) (xs:=#[.tmp 53,.tmp 65]) rfl ?_);at_builtin;refine Kd.R_append_row (Value.int .u8) (0:Int) (h1:=fun _=>rfl) (w0:=w) w.heap.size rfl (.tmp 53) (.tmp 65) 57 5 (.int .u8 0) 1 rfl Tryz.underlying57 info5 rfl (by decide) (.slice A xs.length c) xs ([a7 / 16777216 % 256,a7 / 65536 % 256,a7 / 256 % 256,a7 % 256]:List Int) (some ⟨wr.heap.size,0,none⟩) 4 4 (fun _=>True) rfl rfl (fun _ _=>trivial) ?aO ?aR ?aB ?aS ?aL ?_;(case aO=>exact Kd.R_alloc HO.out _);(case aR=>exact C_of_blk (blk_new wr _) rfl (by omega));(case aB=>exact (by repeat (first|(with_reducible first|exact HB.out|apply below_alloc|apply pw_below_drewN|apply below_drew1)|exact HB.out)));(case aS=>exact (below_size (by repeat (first|(with_reducible first|exact HB.out|apply below_alloc|apply pw_below_drewN|apply below_drew1)|exact HB.out))));(case aL=>have:=hx1;omega);intro v2 w2 ho hb hg_ hat;have HO2:=Aside0.mk ho;have HB2:=Aside0.mk hb;clear HB HO;have HB:=HB2;have HO:=HO2;clear HO2 HB2 ho hb hg_ hat))
         go_roundg (9 - 8)
         case measure=>omega
         case rel=>exact ⟨8,_,by omega,by omega,rfl,⟨by rw [HX.out];rfl⟩,HO,HB⟩
        ·have hcv:=Kd.C_string (P:=Tryz.prog) (A:=A) (c:=c) Tryz.underlying57 Tryz.underlying5 Tryz.underlying9 (Kd.R_reads' HO.out).2.2
         generalize hts:strOfNums xs = rs at hcv
         have HRS:=Aside0.mk hts
         clear hts
         go_wp2_with fail
         go_ret
         refine ⟨?_,HB.out⟩
         have hq:M.size / 64 = i:=by have:=HNB.out;omega
         show Ending.returned (Value.string rs) = _
         rw [← HRS.out,HX.out,← HS.out]
         unfold shaSum
         have hM2:data ++ strOfNums (tailTo data.size 8) = M:=by rw [← HX0.out,HTS.out,HM.out]
         simp only [hM2,hq]
end Go.Proofs.YtcmbggahndfnnaaGreatDoor.Pr
namespace Go.Proofs.YtcmbggahndfnnaaGreatDoor.Pr
set_option linter.unusedVariables false
set_option linter.unusedSimpArgs false
open Go.RowKit Go.Proofs.YtcmbggahndfnnaaGreatDoorW.PrintWords
def record_Sum.f (s:ByteArray):Option ByteArray:=if s.size≤1048576 then some (shaSum s) else none
theorem record_Sum.calls (a0 r:ByteArray) (w:World) (h:record_Sum.f a0 = some r) :
  Calls Tryz.prog 30 #[.string a0] w fun e w'=>e = .returned (.string r)∧Below w.heap.size w w':=by
 unfold record_Sum.f at h
 by_cases hc:a0.size≤1048576
 case neg=>rw [if_neg hc] at h;cases h
 rw [if_pos hc] at h
 injection h with h
 subst h
 exact sum34 a0 w hc
end Go.Proofs.YtcmbggahndfnnaaGreatDoor.Pr
namespace Go.Proofs.YtcmbggahndfnnaaGreatDoor.Pr
open Go.RowKit Go.Proofs.YtcmbggahndfnnaaGreatDoorW.PrintWords Go.Proofs.YtcmbggahndfnnaaGreatDoorW.PrintLast Go.Proofs.YtcmbggahndfnnaaGreatDoorW.PrintMore
attribute [local go_sem] max2_int min2_int max_two min_two max_three min_three max_four min_four
set_option maxHeartbeats 8000000
set_option maxRecDepth 100000
set_option linter.unusedVariables false
set_option linter.unusedSimpArgs false
def record_seal.f (l0:List (S52)) (a1:ByteArray):Option (ByteArray):=if 32≤281474976710656 then ((some (List.replicate 32 0:List Int)).bind fun y230=>(if (l0.length:Int) > 0 then (if 0≤(wrap64 ((l0.length:Int) - 1)) then (if (wrap64 ((l0.length:Int) - 1)) < (l0.length:Int) then (if ((rd_T52 l0 (wrap64 ((l0.length:Int) - 1))).f1).size + a1.size≤9223372036854775807 then ((record_Sum.f (((rd_T52 l0 (wrap64 ((l0.length:Int) - 1))).f1) ++ a1)).bind fun t234=>(some t234)) else (none)) else (none)) else (none)) else (if (strOfNums y230).size + a1.size≤9223372036854775807 then ((record_Sum.f ((strOfNums y230) ++ a1)).bind fun t235=>(some t235)) else (none)))) else (none)
theorem record_seal.calls (A0:Option Addr) (c0:Nat) (l0:List (S52)) (a1:ByteArray) (r:ByteArray) (w:World) (hr0:Kd.C k52 w A0 l0.length l0) (hc0:l0.length≤c0) (h:record_seal.f l0 a1 = some r) :
  Calls Tryz.prog 61 #[.slice A0 l0.length c0,.string a1] w fun e w'=>e = .returned (.string r)∧Below w.heap.size w w':=by
 have HR0:=Aside0.mk hr0
 have HC0:=Aside0.mk hc0
 clear hr0 hc0
 have HB:=Aside0.mk (Below.refl w.heap.size w)
 have H:=h;clear h;unfold record_seal.f at H
 by_cases c3:32≤281474976710656
 ·rw [if_pos c3] at H
  have c3b0:=eq_true c3
  have c3b1:decide (32≤281474976710656) = true:=decide_eq_true c3
  clear c3
  obtain ⟨y230,hy230⟩:∃ y_:List Int,y_ = (List.replicate 32 0):=⟨_,rfl⟩
  replace H:(if (l0.length:Int) > 0 then (if 0≤(wrap64 ((l0.length:Int) - 1)) then (if (wrap64 ((l0.length:Int) - 1)) < (l0.length:Int) then (if ((rd_T52 l0 (wrap64 ((l0.length:Int) - 1))).f1).size + a1.size≤9223372036854775807 then ((record_Sum.f (((rd_T52 l0 (wrap64 ((l0.length:Int) - 1))).f1) ++ a1)).bind fun t234=>(some t234)) else (none)) else (none)) else (none)) else (if (strOfNums y230).size + a1.size≤9223372036854775807 then ((record_Sum.f ((strOfNums y230) ++ a1)).bind fun t235=>(some t235)) else (none))) = some r:=by first|(rw [hy230];with_reducible exact H)|(have H2_:=(Option.bind_some _ _).symm.trans H;rw [hy230];with_reducible exact H2_)|(have H2_:=(Option.bind_some _ _).symm.trans H;with_reducible exact H2_)|with_reducible exact H|(rw [hy230];exact H)|exact H
  have Ny230:=Aside0.mk hy230
  clear hy230
  by_cases c4:(l0.length:Int) > 0
  ·rw [if_pos c4] at H
   have c4b0:decide (0 < (l0.length:Int)) = true:=decide_eq_true c4
   have c4b1:decide (0 < l0.length) = true:=decide_eq_true (by omega)
   clear c4
   obtain ⟨ji5,hji5⟩:∃ j_:Int,(wrap64 ((l0.length:Int) - 1)) = j_:=⟨_,rfl⟩
   replace H:(if 0≤(ji5) then (if (ji5) < (l0.length:Int) then (if ((rd_T52 l0 (ji5)).f1).size + a1.size≤9223372036854775807 then ((record_Sum.f (((rd_T52 l0 (ji5)).f1) ++ a1)).bind fun t234=>(some t234)) else (none)) else (none)) else (none)) = some r:=by first|(rw [hji5] at H;exact H)|(simp only [hji5] at H ⊢;exact H)
   have hji5w:(IntKind.i64.wrap ((l0.length:Int) - 1)) = ji5:=(i64_w _).trans hji5
   by_cases c6:0≤(ji5)
   ·rw [if_pos c6] at H
    have c6b0:decide (0≤(ji5)) = true:=decide_eq_true c6
    clear c6
    by_cases c7:(ji5) < (l0.length:Int)
    ·rw [if_pos c7] at H
     have c7b0:decide ((ji5) < (l0.length:Int)) = true:=decide_eq_true c7
     clear c7
     by_cases c8:((rd_T52 l0 (ji5)).f1).size + a1.size≤9223372036854775807
     ·rw [if_pos c8] at H
      have c8b0:=eq_true c8
      have c8b1:decide (((rd_T52 l0 (ji5)).f1).size + a1.size≤9223372036854775807) = true:=decide_eq_true c8
      try have c8b2:(9223372036854775807 < ((rd_T52 l0 (ji5)).f1).size + a1.size) = False:=eq_false (Nat.not_lt.2 c8)
      obtain ⟨t234,A9,H⟩:=bn_ H
      obtain rfl:=Option.some.inj H
      go_enter Tryz.func61,Tryz.ntmps61
      go_wp2_with (first|((with_reducible refine gate_dst (N:=6) rfl ?_);refine Kd.R_make (Kd.int .u8) _ 5 rfl (N:=6) rfl 57 _ _ rfl 32 rfl rfl Tryz.underlying57 (.int .u8 0) 1 info5 rfl de_ (by omega) 0 (ok:=fun _=>True) (okp:=fun _=>True) rfl (fun _ hk=>hk) trivial (by omega) (by omega) (Below.refl _ _) (Nat.le_refl _) ?_;intro v231 w10 ho11 hb hg_ hnew_;clear hg_ hnew_;(first|rw [← Ny230.out] at ho11|(simp only [Int.reduceToNat] at ho11;rw [← Ny230.out] at ho11));have HO232:=Aside0.mk (Kd.R_lower ho11 (below_size bx_));replace HB:=bs_ hb;clear hb ho11;have hcv12:=own_string (P:=Tryz.prog) Tryz.underlying57 Tryz.underlying5 Tryz.underlying9 (Kd.own_of_R HO232.out);have p233:0≤((ji5):Int):=da_;have q233:(ji5) < (l0.length:Int):=da_;obtain ⟨ad233,A233_3,c233_3,A233_4,c233_4,A233_5,c233_5,e233,hx233_0,hx233_1,hx233_2,hx233_3,hx233_4,hx233_5,hx233_6,hl233_3,hi233_3,hl233_4,hi233_4,hl233_5,hi233_5⟩:=at_T52 HR0.out (ji5) p233 q233;cases e233;replace hx233_0:=(HB.out.cell (World.block_lt_of_cell? w _ hx233_0)).trans hx233_0;replace hx233_1:=(HB.out.cell (World.block_lt_of_cell? w _ hx233_1)).trans hx233_1;replace hx233_2:=(HB.out.cell (World.block_lt_of_cell? w _ hx233_2)).trans hx233_2;replace hx233_3:=(HB.out.cell (World.block_lt_of_cell? w _ hx233_3)).trans hx233_3;replace hx233_4:=(HB.out.cell (World.block_lt_of_cell? w _ hx233_4)).trans hx233_4;replace hx233_5:=(HB.out.cell (World.block_lt_of_cell? w _ hx233_5)).trans hx233_5;replace hx233_6:=(HB.out.cell (World.block_lt_of_cell? w _ hx233_6)).trans hx233_6;have HR233_3:=Aside0.mk hi233_3;have HC233_3:=Aside0.mk hl233_3;clear hi233_3 hl233_3;have HR233_4:=Aside0.mk hi233_4;have HC233_4:=Aside0.mk hl233_4;clear hi233_4 hl233_4;have HR233_5:=Aside0.mk hi233_5;have HC233_5:=Aside0.mk hl233_5;clear hi233_5 hl233_5;replace p233:=eq_true p233;replace q233:=eq_true q233)|((with_reducible refine gate_callee (f:=30) rfl ?_);refine goesL_ (some 21) rfl rfl Tryz.func30 kr_ rfl #[.string (((rd_T52 l0 (ji5)).f1) ++ a1)] rfl (by (try simp only [List.map_toArray,List.map_cons,List.map_nil]);first|done|(simp only [hji5];rfl)|rfl|(simp only [List.length_drop,List.length_take];rfl)) ?_;(with_reducible refine (record_Sum.calls (((rd_T52 l0 (ji5)).f1) ++ a1) t234 _ A9.out).mono ?_);rintro e w13 ⟨rfl,hb⟩;refine ⟨_,rfl,?_⟩;replace HO232:=rb_ HO232 hb;replace HB:=bs_ hb;(try clear hb)))
      go_ret
      exact ⟨by first|rfl|(simp [errW_none,errW_some]<;>rfl)|(simp only [← hji5];first|rfl|(simp [errW_none,errW_some]<;>rfl))|(simp [*,errW_none,errW_some]<;>rfl),bx_⟩
     ·rw [if_neg c8] at H
      exact absurd H sm_
    ·rw [if_neg c7] at H
     exact absurd H sm_
   ·rw [if_neg c6] at H
    exact absurd H sm_
  ·rw [if_neg c4] at H
   have c4b0:decide (0 < (l0.length:Int)) = false:=decide_eq_false c4
   have c4b1:decide (0 < l0.length) = false:=decide_eq_false (by omega)
   clear c4
   by_cases c14:(strOfNums y230).size + a1.size≤9223372036854775807
   ·rw [if_pos c14] at H
    have c14b0:=eq_true c14
    have c14b1:decide ((strOfNums y230).size + a1.size≤9223372036854775807) = true:=decide_eq_true c14
    try have c14b2:(9223372036854775807 < (strOfNums y230).size + a1.size) = False:=eq_false (Nat.not_lt.2 c14)
    obtain ⟨t235,A15,H⟩:=bn_ H
    obtain rfl:=Option.some.inj H
    go_enter Tryz.func61,Tryz.ntmps61
    go_wp2_with (first|((with_reducible refine gate_dst (N:=6) rfl ?_);refine Kd.R_make (Kd.int .u8) _ 5 rfl (N:=6) rfl 57 _ _ rfl 32 rfl rfl Tryz.underlying57 (.int .u8 0) 1 info5 rfl de_ (by omega) 0 (ok:=fun _=>True) (okp:=fun _=>True) rfl (fun _ hk=>hk) trivial (by omega) (by omega) (Below.refl _ _) (Nat.le_refl _) ?_;intro v231 w16 ho17 hb hg_ hnew_;clear hg_ hnew_;(first|rw [← Ny230.out] at ho17|(simp only [Int.reduceToNat] at ho17;rw [← Ny230.out] at ho17));have HO232:=Aside0.mk (Kd.R_lower ho17 (below_size bx_));replace HB:=bs_ hb;clear hb ho17;have hcv18:=own_string (P:=Tryz.prog) Tryz.underlying57 Tryz.underlying5 Tryz.underlying9 (Kd.own_of_R HO232.out))|((with_reducible refine gate_callee (f:=30) rfl ?_);refine gl_ (some 21) Tryz.func30 #[.string ((strOfNums y230) ++ a1)] (record_Sum.calls ((strOfNums y230) ++ a1) t235 _ A15.out) ?_;clear HB;intro w19 hb HB;replace HO232:=rb_ HO232 hb;clear hb))
    go_ret
    exact ⟨rf_,bx_⟩
   ·rw [if_neg c14] at H
    exact absurd H sm_
 ·rw [if_neg c3] at H
  exact absurd H sm_
end Go.Proofs.YtcmbggahndfnnaaGreatDoor.Pr
namespace Go.Proofs.YtcmbggahndfnnaaGreatDoor.Pr
open Go.RowKit Go.Proofs.YtcmbggahndfnnaaGreatDoorW.PrintWords Go.Proofs.YtcmbggahndfnnaaGreatDoorW.PrintLast Go.Proofs.YtcmbggahndfnnaaGreatDoorW.PrintMore
attribute [local go_sem] max2_int min2_int max_two min_two max_three min_three max_four min_four
set_option maxHeartbeats 8000000
set_option maxRecDepth 100000
set_option linter.unusedVariables false
set_option linter.unusedSimpArgs false
mutual
def record_Recover.l0:Nat→ByteArray→List (S52)→Int→ByteArray→Bool→Option ((List (S52)) × Int)
 | 0,_,_,_,_,_=>none
 | k + 1,x0,x4,x5,x304000,x304001=>if (x4.length:Int) < 1024 then ((record_reader_bytes.f k x304000 x304001).bind fun bt304=>(if bt304.2.2 = true then (record_Recover.j1 k x0 x4 x5 bt304.1 true bt304.2.1 bt304.2.2) else (record_Recover.j1 k x0 x4 x5 bt304.1 (decide ((bt304.2.1.size:Int) < 32)) bt304.2.1 bt304.2.2))) else (some (x4,x5))
def record_Recover.j1:Nat→ByteArray→List (S52)→Int→ByteArray→Bool→ByteArray→Bool→Option ((List (S52)) × Int)
 | 0,_,_,_,_,_,_,_=>none
 | k + 1,x0,x4,x5,x7,x31,x304000,x304001=>if x31 = true then (some (x4,x5)) else (if 0≤32 then (if 32≤(x304000.size:Int) then ((record_Decode.f k x7).bind fun bt308=>(if bt308.2.2.2.2.2.2 = 0 then ((record_fits.f k x4 bt308.1 bt308.2.1 bt308.2.2.1 bt308.2.2.2.1 bt308.2.2.2.2.1 bt308.2.2.2.2.2.1).bind fun bt321=>(if bt321.2 = 0 then ((record_seal.f x4 x7).bind fun t323=>(if (x304000.extract 0 32).toList = t323.toList then (if x4.length < 1256584717458 then (record_Recover.l0 k x0 (x4 ++ [(⟨(⟨bt308.1,bt308.2.1,bt308.2.2.1,bt308.2.2.2.1,bt308.2.2.2.2.1,bt308.2.2.2.2.2.1⟩:S26),x304000.extract 0 32⟩:S52)]) (wrap64 ((x0.size:Int) - ((x304000.extract 32 x304000.size).size:Int))) (x304000.extract 32 x304000.size) x304001) else (none)) else (some (x4,x5)))) else (some (x4,x5)))) else (some (x4,x5)))) else (none)) else (none))
end
def record_Recover.f (k:Nat) (a0:ByteArray):Option ((List (S52)) × Int):=(abi_NoEscape.f a0).bind fun bt301=>(record_Recover.l0 k a0 ([]:List (S52)) 0 bt301.1 bt301.2)
theorem record_Recover.mono_l:∀ k,(∀ y0 y1 y2 y3 y4,LeO (record_Recover.l0 k y0 y1 y2 y3 y4) (record_Recover.l0 (k + 1) y0 y1 y2 y3 y4))∧(∀ y0 y1 y2 y3 y4 y5 y6,LeO (record_Recover.j1 k y0 y1 y2 y3 y4 y5 y6) (record_Recover.j1 (k + 1) y0 y1 y2 y3 y4 y5 y6))
 | 0=>⟨fun _ _ _ _ _ r h=>by simp [record_Recover.l0] at h,fun _ _ _ _ _ _ _ r h=>by simp [record_Recover.j1] at h⟩
 | k + 1=>by
  obtain ⟨ih0,ih1⟩:=record_Recover.mono_l k
  refine ⟨?_,?_⟩
  ·intro y0 y1 y2 y3 y4
   unfold record_Recover.l0
   repeat' first
   | (with_reducible exact ih0 _ _ _ _ _)
   | (with_reducible exact ih1 _ _ _ _ _ _ _)
   | (with_reducible exact record_Decode.mono _ _)
   | (with_reducible exact record_fits.mono _ _ _ _ _ _ _ _)
   | (with_reducible exact record_reader_bytes.mono _ _ _)
   | (with_reducible exact LeO.refl _)
   | (with_reducible exact LeO.none _)
   | (with_reducible refine LeO.ite ?_ ?_)
   | (with_reducible refine LeO.bind ?_ (fun _=>?_))
   | exact ih0 _ _ _ _ _
   | exact ih1 _ _ _ _ _ _ _
   | exact record_Decode.mono _ _
   | exact record_fits.mono _ _ _ _ _ _ _ _
   | exact record_reader_bytes.mono _ _ _
   | exact LeO.none _
   | refine LeO.ite ?_ ?_
   | refine LeO.bind ?_ (fun _=>?_)
  ·intro y0 y1 y2 y3 y4 y5 y6
   unfold record_Recover.j1
   repeat' first
   | (with_reducible exact ih0 _ _ _ _ _)
   | (with_reducible exact ih1 _ _ _ _ _ _ _)
   | (with_reducible exact record_Decode.mono _ _)
   | (with_reducible exact record_fits.mono _ _ _ _ _ _ _ _)
   | (with_reducible exact record_reader_bytes.mono _ _ _)
   | (with_reducible exact LeO.refl _)
   | (with_reducible exact LeO.none _)
   | (with_reducible refine LeO.ite ?_ ?_)
   | (with_reducible refine LeO.bind ?_ (fun _=>?_))
   | exact ih0 _ _ _ _ _
   | exact ih1 _ _ _ _ _ _ _
   | exact record_Decode.mono _ _
   | exact record_fits.mono _ _ _ _ _ _ _ _
   | exact record_reader_bytes.mono _ _ _
   | exact LeO.none _
   | refine LeO.ite ?_ ?_
   | refine LeO.bind ?_ (fun _=>?_)
theorem record_Recover.mono:∀ a0 k,LeO (record_Recover.f k a0) (record_Recover.f (k + 1) a0):=by
 intro a0 k
 obtain ⟨ih0,ih1⟩:=record_Recover.mono_l k
 unfold record_Recover.f
 repeat' first
   | (with_reducible exact ih0 _ _ _ _ _)
   | (with_reducible exact ih1 _ _ _ _ _ _ _)
   | (with_reducible exact record_Decode.mono _ _)
   | (with_reducible exact record_fits.mono _ _ _ _ _ _ _ _)
   | (with_reducible exact record_reader_bytes.mono _ _ _)
   | (with_reducible exact LeO.refl _)
   | (with_reducible exact LeO.none _)
   | (with_reducible refine LeO.ite ?_ ?_)
   | (with_reducible refine LeO.bind ?_ (fun _=>?_))
   | exact ih0 _ _ _ _ _
   | exact ih1 _ _ _ _ _ _ _
   | exact record_Decode.mono _ _
   | exact record_fits.mono _ _ _ _ _ _ _ _
   | exact record_reader_bytes.mono _ _ _
   | exact LeO.none _
   | refine LeO.ite ?_ ?_
   | refine LeO.bind ?_ (fun _=>?_)
def record_Recover.T13:Bool × List (List Nat × List Nat):=(true,[([],[]),([0],[0]),([1],[1]),([2],[2]),([3,2],[2,3]),([2],[2]),([2],[2]),([5,6,2,2],[2,5,6]),([4,7,2],[2,4,7]),([2,8],[2,8])])
def record_Recover.B13:List Nat:=[0,1,3,7,15,7,7,103,255,511]
theorem record_Recover.tab13:rtab .any (opsOf Tryz.f22 13) = record_Recover.T13:=by kernel_rfl
theorem record_Recover.bits13:waitsOk record_Recover.T13.2 record_Recover.B13 = true:=by kernel_rfl
theorem record_Recover.calls (k:Nat) (a0:ByteArray) (r1:List (S52)) (r2:Int) (w:World) (hL:LaidW w) (h:record_Recover.f k a0 = some (r1,r2)) :
  Calls Tryz.prog 22 #[.string a0] w fun e w'=>∃ v0_:Value,e = .returned (.tuple #[v0_,.int .i64 r2])∧Kd.S k52 52 w' w.heap.size (fun _=>True) v0_ r1∧Below w.heap.size w w':=by
 have hu52:=Tryz.underlying52
 have hu26:=Tryz.underlying26
 have HB:=Aside0.mk (Below.refl w.heap.size w)
 have HLW:=Aside0.mk hL
 clear hL
 have H:=h;clear h;unfold record_Recover.f at H
 obtain ⟨⟨t301,t302⟩,A2,H⟩:=bn_ H
 dsimp only at H
 have H':=Aside0.mk H
 clear H
 go_enter Tryz.func22,Tryz.ntmps22
 go_wp2_with (first|((with_reducible refine gate_dst (N:=14) rfl ?_);refine nr_ A2 ?_;intro g303 w3 hi hb hb2;have n0_:=Aside0.mk (hb);have n1_:=Aside0.mk (hi);clear HB;have HB:=n0_;have HI303:=n1_;clear n0_ n1_;(try clear hb);(try clear hb2);(try clear hi)))
 go_loopg [4,5] k (fun kq v4 v5 w'=>∃ (x4_1:List (S52)) (x5_1:Int) (x304000_1:ByteArray) (x304001_1:Bool),v5 = .int .i64 x5_1∧Aside0 (record_Recover.l0 kq a0 x4_1 x5_1 x304000_1 x304001_1 = some (r1,r2))∧Aside0 (kq≤k)∧Aside0 (Kd.S k52 52 w' w.heap.size (fun _=>True) v4 x4_1)∧Aside0 (IsS84 w w' g303 x304000_1 x304001_1)∧Aside0 (Below w.heap.size w w'))
 case atStart=>exact ⟨(([]:List (S52))),(0),(t301),(t302),rg_,H',⟨Nat.le_refl _⟩,⟨by first|exact Kd.S_nil _ _ _ _ _|exact Kd.N_nil _ _ _ _ _|exact Kd.V_nil _ _ _ _ _|exact Kd.Q_nil _ _ _ _ _|exact Kd.R_nil _ _ _ _ _⟩,⟨by repeat (first|(with_reducible first|exact HI303.out|apply IsS84.alloc|apply IsS84.drewN|apply IsS84.drew|apply IsS84.set_0|apply IsS84.set_1)|exact HI303.out)⟩,⟨by repeat (first|(with_reducible first|exact HB.out|apply below_alloc|apply pw_below_drewN|apply below_drew1|refine below_set ?_ (IsS84.ge HI303.out))|exact HB.out)⟩⟩
 case round =>
  clear H'
  obtain ⟨x4_1,x5_1,x304000_1,x304001_1,rfl,HA,HK1,HO_4,HI303,HB⟩:=hrel
  cases gk with
  | zero=>exact absurd HA.out (by simp [record_Recover.l0])
  | succ k1 =>
   have H:=HA.out
   clear HA
   simp only [record_Recover.l0] at H
   by_cases c4:(x4_1.length:Int) < 1024
   ·rw [if_pos c4] at H
    have c4b0:decide ((x4_1.length:Int) < 1024) = true:=decide_eq_true c4
    have c4b1:decide (x4_1.length < 1024) = true:=decide_eq_true (by omega)
    clear c4
    obtain ⟨⟨t304,t305,t306⟩,A5,H⟩:=bn_ H
    dsimp only at H
    have HC6:=Aside0.mk H
    clear H
    obtain ⟨Ao7,co7,eo7⟩:=Kd.S_slice HO_4.out
    subst eo7
    go_upto_region 6 with (first|((with_reducible refine gate_callee (f:=56) rfl ?_);refine gm_ (some 19) Tryz.func56 #[.pointer (some ⟨g303,0,none⟩)] ?_;(with_reducible refine (record_reader_bytes.calls k1 g303 x304000_1 x304001_1 t304 t305 t306 w _ ?side1 ?side2 A5.out).mono ?_);(case side1=>repeat (first|(with_reducible first|exact HI303.out|apply IsS84.alloc|apply IsS84.drewN|apply IsS84.drew|apply IsS84.set_0|apply IsS84.set_1)|exact HI303.out));(case side2=>repeat (first|(with_reducible first|exact HB.out|apply below_alloc|apply pw_below_drewN|apply below_drew1|refine below_set ?_ (IsS84.ge HI303.out))|exact HB.out));rintro e w8 ⟨rfl,hi,hb,hk⟩;refine ⟨_,rfl,?_⟩;have n0_:=Aside0.mk (Kd.S_mono (Kd.S_keep (IsS84.apartS (show IsS84 w _ g303 x304000_1 x304001_1 from by repeat (first|(with_reducible first|exact HI303.out|apply IsS84.alloc|apply IsS84.drewN|apply IsS84.drew|apply IsS84.set_0|apply IsS84.set_1)|exact HI303.out)) (by (with_reducible repeat (first|apply Kd.S_alloc|apply Kd.S_drewN|apply Kd.S_drew));exact HO_4.out) de_) hk (fun _ h=>h.2)) (fun _ h=>h.1));have n1_:=Aside0.mk (hb);have n2_:=Aside0.mk (hi);clear HO_4;clear HB;clear HI303;have HO_4:=n0_;have HB:=n1_;have HI303:=n2_;clear n0_ n1_ n2_;(try clear hb);(try clear hk);(try clear hi)))
    (try simp only [Act.put,List.setIfInBounds_toArray,List.set_cons_zero,List.set_cons_succ])
    go_cut [31] (fun v31 wc=>∃ (kq:Nat) (x31_5:Bool),v31 = .bool x31_5∧Aside0 (record_Recover.j1 kq a0 x4_1 x5_1 t304 x31_5 t305 t306 = some (r1,r2))∧Aside0 (kq≤k1)∧Aside0 (Kd.S k52 52 wc w.heap.size (fun _=>True) (.slice Ao7 x4_1.length co7) x4_1)∧Aside0 (IsS84 w wc g303 t305 t306)∧Aside0 (Below w.heap.size w wc))
    case first =>
     have H:=HC6.out
     clear HC6
     by_cases c9:t306 = true
     ·subst c9
      have H1:(record_Recover.j1 k1 a0 x4_1 x5_1 t304 true t305 true) = some (r1,r2):=by rw [if_pos rfl] at H;exact H
      clear H
      have H:=H1
      clear H1
      have H':=Aside0.mk H
      clear H
      obtain ⟨HGz10,hgz10⟩:=HI303.out
      have hcz10_0:=cellS84_0 HGz10
      have hcz10_1:=cellS84_1 HGz10
      have hfz10_0:=blk_frozen HGz10 0
      have hfz10_1:=blk_frozen HGz10 1
      clear HGz10 hgz10
      go_wp2
      go_meet
      case rel=>exact ⟨_,(true),rg_,H',⟨by have:=HK1.out;first|omega|exact Nat.le_refl _⟩,⟨by (with_reducible repeat (first|apply Kd.S_alloc|apply Kd.S_drewN|apply Kd.S_drew));exact HO_4.out⟩,⟨by repeat (first|(with_reducible first|exact HI303.out|apply IsS84.alloc|apply IsS84.drewN|apply IsS84.drew|apply IsS84.set_0|apply IsS84.set_1)|exact HI303.out)⟩,⟨by repeat (first|(with_reducible first|exact HB.out|apply below_alloc|apply pw_below_drewN|apply below_drew1|refine below_set ?_ (IsS84.ge HI303.out))|exact HB.out)⟩⟩
     ·replace c9:=Bool.eq_false_iff.mpr c9
      subst c9
      have H1:(record_Recover.j1 k1 a0 x4_1 x5_1 t304 (decide ((t305.size:Int) < 32)) t305 false) = some (r1,r2):=by rw [if_neg (show ¬ (false = true) by decide)] at H;exact H
      clear H
      have H:=H1
      clear H1
      have H':=Aside0.mk H
      clear H
      obtain ⟨HGz11,hgz11⟩:=HI303.out
      have hcz11_0:=cellS84_0 HGz11
      have hcz11_1:=cellS84_1 HGz11
      have hfz11_0:=blk_frozen HGz11 0
      have hfz11_1:=blk_frozen HGz11 1
      clear HGz11 hgz11
      go_wp2
      go_meet
      case rel=>exact ⟨_,(decide ((t305.size:Int) < 32)),rg_,H',⟨by have:=HK1.out;first|omega|exact Nat.le_refl _⟩,⟨by (with_reducible repeat (first|apply Kd.S_alloc|apply Kd.S_drewN|apply Kd.S_drew));exact HO_4.out⟩,⟨by repeat (first|(with_reducible first|exact HI303.out|apply IsS84.alloc|apply IsS84.drewN|apply IsS84.drew|apply IsS84.set_0|apply IsS84.set_1)|exact HI303.out)⟩,⟨by repeat (first|(with_reducible first|exact HB.out|apply below_alloc|apply pw_below_drewN|apply below_drew1|refine below_set ?_ (IsS84.ge HI303.out))|exact HB.out)⟩⟩
    case rest =>
     clear HC6
     try clear c4
     try clear c4b0
     try clear c4b1
     obtain ⟨kq,x31_5,rfl,HA,HJ5,HO_4,HI303,HB⟩:=hcut
     cases kq with
     | zero=>exact absurd HA.out (by simp [record_Recover.j1])
     | succ kj5 =>
      have H:=HA.out
      clear HA
      simp only [record_Recover.j1] at H
      by_cases c12:x31_5 = true
      ·subst c12
       have H1:(some (x4_1,x5_1)) = some (r1,r2):=by rw [if_pos rfl] at H;exact H
       clear H
       have H:=H1
       clear H1
       simp only [Option.some.injEq,Prod.mk.injEq] at H
       obtain ⟨rfl,rfl⟩:=H
       go_wp2
       go_ret2
       exact ⟨_,rf_,by (with_reducible repeat (first|apply Kd.S_alloc|apply Kd.S_drewN|apply Kd.S_drew));exact HO_4.out,by repeat (first|(with_reducible first|exact HB.out|apply below_alloc|apply pw_below_drewN|apply below_drew1|refine below_set ?_ (IsS84.ge HI303.out))|exact HB.out)⟩
      ·replace c12:=Bool.eq_false_iff.mpr c12
       subst c12
       have H1:(if 0≤32 then (if 32≤(t305.size:Int) then ((record_Decode.f kj5 t304).bind fun bt308=>(if bt308.2.2.2.2.2.2 = 0 then ((record_fits.f kj5 x4_1 bt308.1 bt308.2.1 bt308.2.2.1 bt308.2.2.2.1 bt308.2.2.2.2.1 bt308.2.2.2.2.2.1).bind fun bt321=>(if bt321.2 = 0 then ((record_seal.f x4_1 t304).bind fun t323=>(if (t305.extract 0 32).toList = t323.toList then (if x4_1.length < 1256584717458 then (record_Recover.l0 kj5 a0 (x4_1 ++ [(⟨(⟨bt308.1,bt308.2.1,bt308.2.2.1,bt308.2.2.2.1,bt308.2.2.2.2.1,bt308.2.2.2.2.2.1⟩:S26),t305.extract 0 32⟩:S52)]) (wrap64 ((a0.size:Int) - ((t305.extract 32 t305.size).size:Int))) (t305.extract 32 t305.size) t306) else (none)) else (some (x4_1,x5_1)))) else (some (x4_1,x5_1)))) else (some (x4_1,x5_1)))) else (none)) else (none)) = some (r1,r2):=by rw [if_neg (show ¬ (false = true) by decide)] at H;exact H
       clear H
       have H:=H1
       clear H1
       by_cases c13:0≤32
       ·rw [if_pos c13] at H
        have c13b0:=eq_true c13
        have c13b1:decide (0≤32) = true:=decide_eq_true c13
        clear c13
        by_cases c14:32≤(t305.size:Int)
        ·rw [if_pos c14] at H
         have c14b0:=eq_true c14
         have c14b1:decide (32≤(t305.size:Int)) = true:=decide_eq_true c14
         clear c14
         have c15b0:=eq_true (of_decide_eq_true (by first|(with_reducible assumption)|assumption):32≤(t305.size:Int))
         obtain ⟨⟨t308,t309,t310,t311,t314,t317,t320⟩,A16,H⟩:=bn_ H
         dsimp only at H
         have HC16:=Aside0.mk H
         clear H
         obtain ⟨HGz10,hgz10⟩:=HI303.out
         have hcz10_0:=cellS84_0 HGz10
         have hcz10_1:=cellS84_1 HGz10
         have hfz10_0:=blk_frozen HGz10 0
         have hfz10_1:=blk_frozen HGz10 1
         clear HGz10 hgz10
         go_wp2_with (first|((with_reducible refine gate_dst (N:=8) rfl ?_);(try (refine gate_guard (by rfl) ?_;dsimp only));refine box_event ?hg (N:=8) ?hd (cs:=#[.int .i64 0,.int .i64 0,.int .i64 0,.slice none 0 0,.slice none 0 0,.slice none 0 0,.string (⟨#[]⟩:ByteArray)]) (t:=52) ?hr ?_;(case hd=>rfl);(case hg=>rfl);(case hr=>first|(go_simp;done)|(go_simp;rfl));intro gb307 hg w24 hbox hb;have n0_:=Aside0.mk (Kd.S_below (Kd.S_elderB (by (with_reducible repeat (first|apply Kd.S_alloc|apply Kd.S_drewN|apply Kd.S_drew));exact HO_4.out) gb307 (Nat.le_of_eq hg.symm)) hb);have n1_:=Aside0.mk (IsS84.below (by repeat (first|(with_reducible first|exact HI303.out|apply IsS84.alloc|apply IsS84.drewN|apply IsS84.drew|apply IsS84.set_0|apply IsS84.set_1)|exact HI303.out)) hb);have n2_:=Aside0.mk (below_step (by repeat (first|(with_reducible first|exact HB.out|apply below_alloc|apply pw_below_drewN|apply below_drew1|refine below_set ?_ (IsS84.ge HI303.out))|exact HB.out)) hb);have n3_:=Aside0.mk (hbox);have n4_:=Aside0.mk ((by rw [hg];exact (below_size (by repeat (first|(with_reducible first|exact HB.out|apply below_alloc|apply pw_below_drewN|apply below_drew1|refine below_set ?_ (IsS84.ge HI303.out))|exact HB.out))):w.heap.size≤gb307));have n5_:=Aside0.mk ((by rw [hg];exact (below_size (by repeat (first|(with_reducible first|exact HB.out|apply below_alloc|apply pw_below_drewN|apply below_drew1|refine below_set ?_ (IsS84.ge HI303.out))|exact HB.out))):w.heap.size≤gb307));have n6_:=Aside0.mk ((by rw [hg];exact Nat.ne_of_lt (IsS84.lt (show IsS84 w _ g303 t305 t306 from by repeat (first|(with_reducible first|exact HI303.out|apply IsS84.alloc|apply IsS84.drewN|apply IsS84.drew|apply IsS84.set_0|apply IsS84.set_1)|exact HI303.out))):g303≠gb307));have n7_:=Aside0.mk ((by rw [hg];exact Nat.ne_of_gt (IsS84.lt (show IsS84 w _ g303 t305 t306 from by repeat (first|(with_reducible first|exact HI303.out|apply IsS84.alloc|apply IsS84.drewN|apply IsS84.drew|apply IsS84.set_0|apply IsS84.set_1)|exact HI303.out))):gb307≠g303));clear HO_4;clear HI303;clear HB;have HO_4:=n0_;have HI303:=n1_;have HB:=n2_;have BK307:=n3_;have GE307:=n4_;have GE307:=n5_;have NB303_307:=n6_;have NB307_303:=n7_;clear n0_ n1_ n2_ n3_ n4_ n5_ n6_ n7_;clear hb hbox hg;have hnb25:=NB307_303.out;have hnc25:=NB303_307.out;obtain ⟨hcz26_0,hcz26_1,hcz26_2,hcz26_3,hcz26_4,hcz26_5,hcz26_6,hfz26_0,hfz26_1,hfz26_2,hfz26_3,hfz26_4,hfz26_5,hfz26_6⟩:=c7_ BK307;obtain ⟨HGz27,hgz27⟩:=HI303.out;have hcz27_0:=cellS84_0 HGz27;have hcz27_1:=cellS84_1 HGz27;have hfz27_0:=blk_frozen HGz27 0;have hfz27_1:=blk_frozen HGz27 1;clear HGz27 hgz27))
         go_at_call 15
         clear hcz26_0 hcz26_1 hcz26_2 hcz26_3 hcz26_4 hcz26_5 hcz26_6 hfz26_0 hfz26_1 hfz26_2 hfz26_3 hfz26_4 hfz26_5 hfz26_6 hcz27_0 hcz27_1 hfz27_0 hfz27_1 hnb25 hnc25
         generalize hw_:((((((((w24.setCell ⟨gb307,0,none⟩ (.int .i64 0)).setCell ⟨gb307,1,none⟩ (.int .i64 0)).setCell ⟨gb307,2,none⟩ (.int .i64 0)).setCell ⟨gb307,3,none⟩ (.slice none 0 0)).setCell ⟨gb307,4,none⟩ (.slice none 0 0)).setCell ⟨gb307,5,none⟩ (.slice none 0 0)).setCell ⟨gb307,6,none⟩ (.string (t305.extract 0 32))).setCell ⟨g303,0,none⟩ (.string (t305.extract 32 t305.size))) = W2
         have n0_:Aside0 (Kd.S k52 52 W2 w.heap.size (fun k_=>True∧k_≠gb307) (.slice Ao7 x4_1.length co7) x4_1):=by
          rw [← hw_]
          exact ⟨Kd.S_mono (Kd.S_far (p:=⟨g303,0,none⟩) (Kd.S_far (p:=⟨gb307,6,none⟩) (Kd.S_far (p:=⟨gb307,5,none⟩) (Kd.S_far (p:=⟨gb307,4,none⟩) (Kd.S_far (p:=⟨gb307,3,none⟩) (Kd.S_far (p:=⟨gb307,2,none⟩) (Kd.S_far (p:=⟨gb307,1,none⟩) (Kd.S_far (p:=⟨gb307,0,none⟩) (IsS84.apartS HI303.out (Kd.S_mono HO_4.out (fun k_ hk=>(⟨hk,hk.2⟩:_∧k_≠gb307))) de_) (fun _ hk=>hk.1.2) (.int .i64 0)) (fun _ hk=>hk.1.2) (.int .i64 0)) (fun _ hk=>hk.1.2) (.int .i64 0)) (fun _ hk=>hk.1.2) (.slice none 0 0)) (fun _ hk=>hk.1.2) (.slice none 0 0)) (fun _ hk=>hk.1.2) (.slice none 0 0)) (fun _ hk=>hk.1.2) (.string (t305.extract 0 32))) (fun _ hk=>hk.2) (.string (t305.extract 32 t305.size))) (fun _ h_=>h_.1.1)⟩
         have n1_:Aside0 (IsS84 w W2 g303 (t305.extract 32 t305.size) t306):=by
          rw [← hw_]
          refine ⟨IsS84.set_0 (f0:=t305) ?_ _⟩
          iterate 7 refine IsS84.far ?_ NB303_307.out _
          exact HI303.out
         have n2_:Aside0 (Below w.heap.size w W2):=by
          rw [← hw_]
          refine ⟨below_set ?_ (IsS84.ge HI303.out)⟩
          iterate 7 refine below_set ?_ GE307.out
          exact HB.out
         have n3_:Aside0 (W2.heap[gb307]? = some (.cells #[.int .i64 0,.int .i64 0,.int .i64 0,.slice none 0 0,.slice none 0 0,.slice none 0 0,.string (t305.extract 0 32)] 52 (0,0))):=by
          rw [← hw_]
          refine ⟨blk_far ?_ NB307_303.out _⟩
          refine blk_put (cs:=#[.int .i64 0,.int .i64 0,.int .i64 0,.slice none 0 0,.slice none 0 0,.slice none 0 0,.string (⟨#[]⟩:ByteArray)]) ?_ 6 _ rfl
          refine blk_put (cs:=#[.int .i64 0,.int .i64 0,.int .i64 0,.slice none 0 0,.slice none 0 0,.slice none 0 0,.string (⟨#[]⟩:ByteArray)]) ?_ 5 _ rfl
          refine blk_put (cs:=#[.int .i64 0,.int .i64 0,.int .i64 0,.slice none 0 0,.slice none 0 0,.slice none 0 0,.string (⟨#[]⟩:ByteArray)]) ?_ 4 _ rfl
          refine blk_put (cs:=#[.int .i64 0,.int .i64 0,.int .i64 0,.slice none 0 0,.slice none 0 0,.slice none 0 0,.string (⟨#[]⟩:ByteArray)]) ?_ 3 _ rfl
          refine blk_put (cs:=#[.int .i64 0,.int .i64 0,.int .i64 0,.slice none 0 0,.slice none 0 0,.slice none 0 0,.string (⟨#[]⟩:ByteArray)]) ?_ 2 _ rfl
          refine blk_put (cs:=#[.int .i64 0,.int .i64 0,.int .i64 0,.slice none 0 0,.slice none 0 0,.slice none 0 0,.string (⟨#[]⟩:ByteArray)]) ?_ 1 _ rfl
          refine blk_put (cs:=#[.int .i64 0,.int .i64 0,.int .i64 0,.slice none 0 0,.slice none 0 0,.slice none 0 0,.string (⟨#[]⟩:ByteArray)]) ?_ 0 _ rfl
          exact BK307.out
         clear hw_ HO_4 HI303 HB BK307
         have HO_4:=n0_
         have HI303:=n1_
         have HB:=n2_
         have BK307:=n3_
         clear n0_ n1_ n2_ n3_
         (with_reducible refine (record_Decode.calls kj5 t304 t308 t309 t310 t311 t314 t317 t320 _ ?side1 A16.out).mono ?_)
         case side1=>exact HLW.out.below HB.out
         rintro e w28 ⟨v312,v315,v318,rfl,ho0,ho1,ho2,hb⟩
         have n0_:=Aside0.mk (Kd.S_mono (Kd.S_told (Kd.S_told (Kd.S_told (Kd.S_old HO_4.out hb) (Kd.R_base ho0)) (Kd.R_base ho1)) (Kd.R_base ho2)) (fun _ h_=>h_.1))
         have n1_:=Aside0.mk (Kd.R_lower ho0 (below_size HB.out))
         have n2_:=Aside0.mk (Kd.R_lower ho1 (below_size HB.out))
         have n3_:=Aside0.mk (Kd.R_lower ho2 (below_size HB.out))
         have n4_:=Aside0.mk (IsS84.below HI303.out hb)
         have n5_:=Aside0.mk (blk_below BK307.out hb)
         have n6_:=Aside0.mk (below_step HB.out hb)
         clear HO_4 HI303 BK307 HB
         have HO_4:=n0_
         have HO313:=n1_
         have HO316:=n2_
         have HO319:=n3_
         have HI303:=n4_
         have BK307:=n5_
         have HB:=n6_
         clear n0_ n1_ n2_ n3_ n4_ n5_ n6_ hb ho0 ho1 ho2
         have H:=HC16.out
         clear HC16
         obtain ⟨hcz29_0,hcz29_1,hcz29_2,hcz29_3,hcz29_4,hcz29_5,hcz29_6,hfz29_0,hfz29_1,hfz29_2,hfz29_3,hfz29_4,hfz29_5,hfz29_6⟩:=c7_ BK307
         obtain ⟨Ao30,co30,eo30⟩:=Kd.R_slice HO313.out
         subst eo30
         obtain ⟨Ao31,co31,eo31⟩:=Kd.R_slice HO316.out
         subst eo31
         obtain ⟨Ao32,co32,eo32⟩:=Kd.R_slice HO319.out
         subst eo32
         by_cases c17:t320 = 0
         ·rw [if_pos c17] at H
          have c17b0:(t320 == 0) = true:=beq_iff_eq.mpr c17
          have c17b1:(t320 != 0) = false:=bne_eq_false_iff_eq.mpr c17
          clear c17
          obtain ⟨⟨t321,t322⟩,A18,H⟩:=bn_ H
          dsimp only at H
          have HC18:=Aside0.mk H
          clear H
          go_wp2_with fail
          go_at_call 60
          clear hcz29_0 hcz29_1 hcz29_2 hcz29_3 hcz29_4 hcz29_5 hcz29_6 hfz29_0 hfz29_1 hfz29_2 hfz29_3 hfz29_4 hfz29_5 hfz29_6
          generalize hw_:((((((w28.setCell ⟨gb307,0,none⟩ (.int .i64 t308)).setCell ⟨gb307,1,none⟩ (.int .i64 t309)).setCell ⟨gb307,2,none⟩ (.int .i64 t310)).setCell ⟨gb307,3,none⟩ (.slice Ao30 t311.length co30)).setCell ⟨gb307,4,none⟩ (.slice Ao31 t314.length co31)).setCell ⟨gb307,5,none⟩ (.slice Ao32 t317.length co32)) = W3
          have n0_:Aside0 (Kd.S k52 52 W3 w.heap.size (fun k_=>((((True∧k_≠gb307)∧some k_≠(.slice Ao30 t311.length co30:Value).ownBlock)∧some k_≠(.slice Ao31 t314.length co31:Value).ownBlock)∧some k_≠(.slice Ao32 t317.length co32:Value).ownBlock)) (.slice Ao7 x4_1.length co7) x4_1):=by
           rw [← hw_]
           exact ⟨Kd.S_mono (Kd.S_far (p:=⟨gb307,5,none⟩) (Kd.S_far (p:=⟨gb307,4,none⟩) (Kd.S_far (p:=⟨gb307,3,none⟩) (Kd.S_far (p:=⟨gb307,2,none⟩) (Kd.S_far (p:=⟨gb307,1,none⟩) (Kd.S_far (p:=⟨gb307,0,none⟩) (Kd.S_mono HO_4.out (fun k_ hk=>(⟨hk,hk.1.1.1.2⟩:_∧k_≠gb307))) (fun _ hk=>hk.2) (.int .i64 t308)) (fun _ hk=>hk.2) (.int .i64 t309)) (fun _ hk=>hk.2) (.int .i64 t310)) (fun _ hk=>hk.2) (.slice Ao30 t311.length co30)) (fun _ hk=>hk.2) (.slice Ao31 t314.length co31)) (fun _ hk=>hk.2) (.slice Ao32 t317.length co32)) (fun _ h_=>h_.1)⟩
          have n1_:Aside0 (Kd.R (Kd.int .i64) 3 W3 w.heap.size (fun _=>True) (.slice Ao30 t311.length co30) t311):=by
           rw [← hw_]
           exact ⟨Kd.R_mono (Kd.R_far (p:=⟨gb307,5,none⟩) (Kd.R_far (p:=⟨gb307,4,none⟩) (Kd.R_far (p:=⟨gb307,3,none⟩) (Kd.R_far (p:=⟨gb307,2,none⟩) (Kd.R_far (p:=⟨gb307,1,none⟩) (Kd.R_far (p:=⟨gb307,0,none⟩) (Kd.R_types HO313.out BK307.out de_) (fun _ hk=>hk.2) (.int .i64 t308)) (fun _ hk=>hk.2) (.int .i64 t309)) (fun _ hk=>hk.2) (.int .i64 t310)) (fun _ hk=>hk.2) (.slice Ao30 t311.length co30)) (fun _ hk=>hk.2) (.slice Ao31 t314.length co31)) (fun _ hk=>hk.2) (.slice Ao32 t317.length co32)) (fun _ h_=>h_.1)⟩
          have n2_:Aside0 (Kd.R Kd.string 65 W3 w.heap.size (fun _=>True) (.slice Ao31 t314.length co31) t314):=by
           rw [← hw_]
           exact ⟨Kd.R_mono (Kd.R_far (p:=⟨gb307,5,none⟩) (Kd.R_far (p:=⟨gb307,4,none⟩) (Kd.R_far (p:=⟨gb307,3,none⟩) (Kd.R_far (p:=⟨gb307,2,none⟩) (Kd.R_far (p:=⟨gb307,1,none⟩) (Kd.R_far (p:=⟨gb307,0,none⟩) (Kd.R_types HO316.out BK307.out de_) (fun _ hk=>hk.2) (.int .i64 t308)) (fun _ hk=>hk.2) (.int .i64 t309)) (fun _ hk=>hk.2) (.int .i64 t310)) (fun _ hk=>hk.2) (.slice Ao30 t311.length co30)) (fun _ hk=>hk.2) (.slice Ao31 t314.length co31)) (fun _ hk=>hk.2) (.slice Ao32 t317.length co32)) (fun _ h_=>h_.1)⟩
          have n3_:Aside0 (Kd.R Kd.string 9 W3 w.heap.size (fun _=>True) (.slice Ao32 t317.length co32) t317):=by
           rw [← hw_]
           exact ⟨Kd.R_mono (Kd.R_far (p:=⟨gb307,5,none⟩) (Kd.R_far (p:=⟨gb307,4,none⟩) (Kd.R_far (p:=⟨gb307,3,none⟩) (Kd.R_far (p:=⟨gb307,2,none⟩) (Kd.R_far (p:=⟨gb307,1,none⟩) (Kd.R_far (p:=⟨gb307,0,none⟩) (Kd.R_types HO319.out BK307.out de_) (fun _ hk=>hk.2) (.int .i64 t308)) (fun _ hk=>hk.2) (.int .i64 t309)) (fun _ hk=>hk.2) (.int .i64 t310)) (fun _ hk=>hk.2) (.slice Ao30 t311.length co30)) (fun _ hk=>hk.2) (.slice Ao31 t314.length co31)) (fun _ hk=>hk.2) (.slice Ao32 t317.length co32)) (fun _ h_=>h_.1)⟩
          have n4_:Aside0 (IsS84 w W3 g303 (t305.extract 32 t305.size) t306):=by
           rw [← hw_]
           refine ⟨IsS84.far ?_ NB303_307.out _⟩
           iterate 5 refine IsS84.far ?_ NB303_307.out _
           exact HI303.out
          have n5_:Aside0 (W3.heap[gb307]? = some (.cells #[.int .i64 t308,.int .i64 t309,.int .i64 t310,.slice Ao30 t311.length co30,.slice Ao31 t314.length co31,.slice Ao32 t317.length co32,.string (t305.extract 0 32)] 52 (0,0))):=by
           rw [← hw_]
           refine ⟨blk_put (cs:=#[.int .i64 t308,.int .i64 t309,.int .i64 t310,.slice Ao30 t311.length co30,.slice Ao31 t314.length co31,.slice none 0 0,.string (t305.extract 0 32)]) ?_ 5 _ rfl⟩
           refine blk_put (cs:=#[.int .i64 t308,.int .i64 t309,.int .i64 t310,.slice Ao30 t311.length co30,.slice none 0 0,.slice none 0 0,.string (t305.extract 0 32)]) ?_ 4 _ rfl
           refine blk_put (cs:=#[.int .i64 t308,.int .i64 t309,.int .i64 t310,.slice none 0 0,.slice none 0 0,.slice none 0 0,.string (t305.extract 0 32)]) ?_ 3 _ rfl
           refine blk_put (cs:=#[.int .i64 t308,.int .i64 t309,.int .i64 0,.slice none 0 0,.slice none 0 0,.slice none 0 0,.string (t305.extract 0 32)]) ?_ 2 _ rfl
           refine blk_put (cs:=#[.int .i64 t308,.int .i64 0,.int .i64 0,.slice none 0 0,.slice none 0 0,.slice none 0 0,.string (t305.extract 0 32)]) ?_ 1 _ rfl
           refine blk_put (cs:=#[.int .i64 0,.int .i64 0,.int .i64 0,.slice none 0 0,.slice none 0 0,.slice none 0 0,.string (t305.extract 0 32)]) ?_ 0 _ rfl
           exact BK307.out
          have n6_:Aside0 (Below w.heap.size w W3):=by
           rw [← hw_]
           refine ⟨below_set ?_ GE307.out⟩
           iterate 5 refine below_set ?_ GE307.out
           exact HB.out
          clear hw_ HO_4 HO313 HO316 HO319 HI303 BK307 HB
          have HO_4:=n0_
          have HO313:=n1_
          have HO316:=n2_
          have HO319:=n3_
          have HI303:=n4_
          have BK307:=n5_
          have HB:=n6_
          clear n0_ n1_ n2_ n3_ n4_ n5_ n6_
          (with_reducible refine (record_fits.calls kj5 _ _ x4_1 t308 t309 t310 _ _ t311 _ _ t314 _ _ t317 t321 t322 _ ?side1 ?side2 ?side3 ?side4 ?side5 ?side6 ?side7 ?side8 ?side9 A18.out).mono ?_)
          case side1=>exact (Kd.S_reads' HO_4.out).2.2
          case side2=>exact (Kd.S_reads' HO_4.out).2.1
          case side3=>exact (Kd.R_reads' HO313.out).2.2
          case side4=>exact (Kd.R_reads' HO313.out).2.1
          case side5=>exact (Kd.R_reads' HO316.out).2.2
          case side6=>exact (Kd.R_reads' HO316.out).2.1
          case side7=>exact (Kd.R_reads' HO319.out).2.2
          case side8=>exact (Kd.R_reads' HO319.out).2.1
          case side9=>exact HLW.out.below HB.out
          rintro e w33 ⟨rfl,hb⟩
          have n0_:=Aside0.mk (Kd.S_below HO_4.out hb)
          have n1_:=Aside0.mk (Kd.R_below HO313.out hb)
          have n2_:=Aside0.mk (Kd.R_below HO316.out hb)
          have n3_:=Aside0.mk (Kd.R_below HO319.out hb)
          have n4_:=Aside0.mk (IsS84.below HI303.out hb)
          have n5_:=Aside0.mk (blk_below BK307.out hb)
          have n6_:=Aside0.mk (below_step HB.out hb)
          clear HO_4 HO313 HO316 HO319 HI303 BK307 HB
          have HO_4:=n0_
          have HO313:=n1_
          have HO316:=n2_
          have HO319:=n3_
          have HI303:=n4_
          have BK307:=n5_
          have HB:=n6_
          clear n0_ n1_ n2_ n3_ n4_ n5_ n6_ hb
          have H:=HC18.out
          clear HC18
          by_cases c19:t322 = 0
          ·rw [if_pos c19] at H
           have c19b0:(t322 == 0) = true:=beq_iff_eq.mpr c19
           have c19b1:(t322 != 0) = false:=bne_eq_false_iff_eq.mpr c19
           clear c19
           obtain ⟨t323,A20,H⟩:=bn_ H
           by_cases c21:(t305.extract 0 32).toList = t323.toList
           ·rw [if_pos c21] at H
            have c21b0:((t305.extract 0 32).toList == t323.toList) = true:=beq_iff_eq.mpr c21
            have c21b1:((t305.extract 0 32).toList != t323.toList) = false:=bne_eq_false_iff_eq.mpr c21
            clear c21
            by_cases c22:x4_1.length < 1256584717458
            ·rw [if_pos c22] at H
             have LMc22:=Aside0.mk c22
             clear c22
             obtain ⟨y324,hy324⟩:∃ y_:List (S52),y_ = (x4_1 ++ [(⟨(⟨t308,t309,t310,t311,t314,t317⟩:S26),t305.extract 0 32⟩:S52)]):=⟨_,rfl⟩
             replace H:(record_Recover.l0 kj5 a0 y324 (wrap64 ((a0.size:Int) - ((t305.extract 32 t305.size).size:Int))) (t305.extract 32 t305.size) t306) = some (r1,r2):=by first|(rw [hy324];with_reducible exact H)|(have H2_:=(Option.bind_some _ _).symm.trans H;rw [hy324];with_reducible exact H2_)|(have H2_:=(Option.bind_some _ _).symm.trans H;with_reducible exact H2_)|with_reducible exact H|(rw [hy324];exact H)|exact H
             have Ny324:=Aside0.mk hy324
             clear hy324
             have H':=Aside0.mk H
             clear H
             try go_wp2
             have n0_:=Aside0.mk (Kd.S_drew HO_4.out)
             have n1_:=Aside0.mk (Kd.R_drew HO313.out)
             have n2_:=Aside0.mk (Kd.R_drew HO316.out)
             have n3_:=Aside0.mk (Kd.R_drew HO319.out)
             have n4_:=Aside0.mk (blk_drew BK307.out)
             have n5_:=Aside0.mk (IsS84.drew HI303.out)
             have n6_:=Aside0.mk (below_drew1 HB.out)
             clear HO_4
             clear HO313
             clear HO316
             clear HO319
             clear BK307
             clear HI303
             clear HB
             have HO_4:=n0_
             have HO313:=n1_
             have HO316:=n2_
             have HO319:=n3_
             have BK307:=n4_
             have HI303:=n5_
             have HB:=n6_
             clear n0_ n1_ n2_ n3_ n4_ n5_ n6_
             refine start_ (n:=10) (S:=fun w'=>w'.cell? ⟨gb307,0,none⟩ = some (.int .i64 t308)∧w'.cell? ⟨gb307,1,none⟩ = some (.int .i64 t309)∧w'.cell? ⟨gb307,2,none⟩ = some (.int .i64 t310)∧w'.cell? ⟨gb307,3,none⟩ = some (.slice Ao30 t311.length co30)∧w'.cell? ⟨gb307,4,none⟩ = some (.slice Ao31 t314.length co31)∧w'.cell? ⟨gb307,5,none⟩ = some (.slice Ao32 t317.length co32)∧w'.cell? ⟨gb307,6,none⟩ = some (.string (t305.extract 0 32))) (ds:=[]) #[false,false,false,false,false,false,false,false,false,false] kr_ rfl rfl hc_ (fun hHeld=>?_);refine with_tabW record_Recover.tab13 record_Recover.bits13 (fun HT_ HW_=>?_)
             generalize w33.drew = w34 at HO_4 HO313 HO316 HO319 BK307 HI303 HB hHeld ⊢
             refine pu_ 0 (some 61) #[true,false,false,false,false,false,false,false,false,false] ?_
             refine pu_ 1 (some 62) #[true,true,false,false,false,false,false,false,false,false] ?_
             refine pu_ 2 (some 63) #[true,true,true,false,false,false,false,false,false,false] ?_
             refine pu_ 3 (some 64) #[true,true,true,true,false,false,false,false,false,false] ?_
             refine pu_ 5 (some 66) #[true,true,true,true,false,true,false,false,false,false] ?_
             refine pu_ 6 (some 67) #[true,true,true,true,false,true,true,false,false,false] ?_
             refine tk_ 4 (some 65) #[true,true,true,true,true,true,true,false,false,false] hHeld ?_
             refine oc_ 7 (some 68) #[true,true,true,true,true,true,true,true,false,false] Tryz.func61 #[.slice Ao7 x4_1.length co7,.string t304] (fun K hK=>?_)
             with_reducible refine (record_seal.calls _ _ x4_1 t304 t323 _ ?side1 ?side2 A20.out).mono ?_
             (case side1=>exact cx_ ((Kd.S_reads' HO_4.out).2.2))
             (case side2=>exact (Kd.S_reads' HO_4.out).2.1)
             rintro e w35 ⟨rfl,hb⟩
             refine ⟨_,rfl,?_⟩
             have n0_:=Aside0.mk (Kd.S_below (by (with_reducible repeat (first|apply Kd.S_alloc|apply Kd.S_drewN|apply Kd.S_drew));exact HO_4.out) hb)
             have n1_:=Aside0.mk (Kd.R_below (by (with_reducible repeat (first|apply Kd.R_alloc|apply Kd.R_drewN|apply Kd.R_drew));exact HO313.out) hb)
             have n2_:=Aside0.mk (Kd.R_below (by (with_reducible repeat (first|apply Kd.R_alloc|apply Kd.R_drewN|apply Kd.R_drew));exact HO316.out) hb)
             have n3_:=Aside0.mk (Kd.R_below (by (with_reducible repeat (first|apply Kd.R_alloc|apply Kd.R_drewN|apply Kd.R_drew));exact HO319.out) hb)
             have n4_:=Aside0.mk (IsS84.below (by repeat (first|(with_reducible first|exact HI303.out|apply IsS84.alloc|apply IsS84.drewN|apply IsS84.drew|apply IsS84.set_0|apply IsS84.set_1|refine IsS84.far ?_ NB303_307.out _)|exact HI303.out)) hb)
             have n5_:=Aside0.mk (blk_below (g:=gb307) (o:=.cells #[.int .i64 t308,.int .i64 t309,.int .i64 t310,.slice Ao30 t311.length co30,.slice Ao31 t314.length co31,.slice Ao32 t317.length co32,.string (t305.extract 0 32)] 52 (0,0)) (by (with_reducible repeat (first|refine blk_drewN ?_ _|refine blk_drew ?_|refine blk_alloc ?_ _));exact BK307.out) hb)
             have n6_:=Aside0.mk (below_step (by repeat (first|(with_reducible first|exact HB.out|apply below_alloc|apply pw_below_drewN|apply below_drew1|refine below_set ?_ (IsS84.ge HI303.out)|refine below_set ?_ GE307.out)|exact HB.out)) hb)
             clear HO_4
             clear HO313
             clear HO316
             clear HO319
             clear HI303
             clear BK307
             clear HB
             have HO_4:=n0_
             have HO313:=n1_
             have HO316:=n2_
             have HO319:=n3_
             have HI303:=n4_
             have BK307:=n5_
             have HB:=n6_
             clear n0_ n1_ n2_ n3_ n4_ n5_ n6_
             (try clear hb)
             refine hk_ hK (fun hHeld=>?_);clear hK K
             refine pu_ 8 (some 69) #[true,true,true,true,true,true,true,true,true,false] ?_
             refine pu_ 9 (some 70) #[true,true,true,true,true,true,true,true,true,true] ?_
             refine done_ (done_of HT_.out kr_) ?_
             try go_wp2
             replace HO_4:=Aside0.mk (Kd.S_drew HO_4.out)
             replace HO313:=Aside0.mk (Kd.R_drew HO313.out)
             replace HO316:=Aside0.mk (Kd.R_drew HO316.out)
             replace HO319:=Aside0.mk (Kd.R_drew HO319.out)
             replace BK307:=dr_ BK307
             replace HI303:=Aside0.mk (IsS84.drew HI303.out)
             replace HB:=db_ HB
             have BKr:=Aside0.mk HI303.out.1
             refine start_ (n:=14) (S:=fun w'=>w'.cell? ⟨gb307,0,none⟩ = some (.int .i64 t308)∧w'.cell? ⟨gb307,1,none⟩ = some (.int .i64 t309)∧w'.cell? ⟨gb307,2,none⟩ = some (.int .i64 t310)∧w'.cell? ⟨gb307,3,none⟩ = some (.slice Ao30 t311.length co30)∧w'.cell? ⟨gb307,4,none⟩ = some (.slice Ao31 t314.length co31)∧w'.cell? ⟨gb307,5,none⟩ = some (.slice Ao32 t317.length co32)∧w'.cell? ⟨gb307,6,none⟩ = some (.string (t305.extract 0 32))∧w'.cell? ⟨g303,0,none⟩ = some (.string (t305.extract 32 t305.size))) (ds:=[]) #[false,false,false,false,false,false,false,false,false,false,false,false,false,false] kr_ rfl rfl hc_ (fun hHeld=>?_)
             generalize w35.drew = w36 at HO_4 HO313 HO316 HO319 BK307 BKr HI303 HB hHeld ⊢
             refine pu_ 0 (some 71) #[true,false,false,false,false,false,false,false,false,false,false,false,false,false] ?_
             refine pu_ 4 (some 75) #[true,false,false,false,true,false,false,false,false,false,false,false,false,false] ?_
             refine pu_ 5 (some 76) #[true,false,false,false,true,true,false,false,false,false,false,false,false,false] ?_
             refine pu_ 6 (some 77) #[true,false,false,false,true,true,true,false,false,false,false,false,false,false] ?_
             refine pu_ 7 (some 78) #[true,false,false,false,true,true,true,true,false,false,false,false,false,false] ?_
             refine pu_ 8 (some 79) #[true,false,false,false,true,true,true,true,true,false,false,false,false,false] ?_
             refine tk_ 1 (some 72) #[true,true,false,false,true,true,true,true,true,false,false,false,false,false] hHeld ?_
             refine tk_ 9 (some 80) #[true,true,false,false,true,true,true,true,true,true,false,false,false,false] hHeld ?_
             refine pu_ 10 (some 81) #[true,true,false,false,true,true,true,true,true,true,true,false,false,false] ?_
             refine pu_ 11 (some 82) #[true,true,false,false,true,true,true,true,true,true,true,true,false,false] ?_
             refine one_ (i:=2) (N:=some 73) #[true,true,true,false,true,true,true,true,true,true,true,true,false,false] rfl rfl kr_ (by decide) (fun K hK=>?_)
             refine value_ (w1:=?_) (v:=?_) (by rfl) rfl ?_ ?_
             rotate_left 2
             ·go_simp
              constructor
              ·rfl
              ·rfl
             refine hK.out _ _ ⟨(blk_cell (blk_alloc BK307.out _) 0).trans rfl,(blk_cell (blk_alloc BK307.out _) 1).trans rfl,(blk_cell (blk_alloc BK307.out _) 2).trans rfl,(blk_cell (blk_alloc BK307.out _) 3).trans rfl,(blk_cell (blk_alloc BK307.out _) 4).trans rfl,(blk_cell (blk_alloc BK307.out _) 5).trans rfl,(blk_cell (blk_alloc BK307.out _) 6).trans rfl,(blk_cell (blk_alloc BKr.out _) 0).trans rfl⟩ (fun hHeld=>?_)
             clear hK K
             refine norm_ (a':=?_) ?_ ?_
             rotate_left
             ·show Act.put _ (some 73) _ = _
              simp only [Act.put,List.setIfInBounds_toArray,List.set_cons_zero,List.set_cons_succ,i64_w,i32_w]
              rfl
             refine one_ (i:=3) (N:=some 74) #[true,true,true,true,true,true,true,true,true,true,true,true,false,false] rfl rfl kr_ (by decide) (fun K hK=>?_)
             refine Kd.S_append_step k52 (w0:=w) w.heap.size (by rfl) (.tmp 71) (.tmp 73) 37 52 (.agg #[(.int .i64 0),(.int .i64 0),(.int .i64 0),(.slice none 0 0),(.slice none 0 0),(.slice none 0 0),(.string ⟨#[]⟩)]) 112 rfl Tryz.underlying37 info52 rfl de_ (by omega) (.slice Ao7 x4_1.length co7) x4_1 (⟨(⟨t308,t309,t310,t311,t314,t317⟩:S26),t305.extract 0 32⟩:S52) [.int .i64 t308,.int .i64 t309,.int .i64 t310,.slice Ao30 t311.length co30,.slice Ao31 t314.length co31,.slice Ao32 t317.length co32,.string (t305.extract 0 32)] (fun k_=>k_≠gb307) (fun k_=>some k_ = (.slice Ao30 t311.length co30:Value).ownBlock ∨ some k_ = (.slice Ao31 t314.length co31:Value).ownBlock ∨ some k_ = (.slice Ao32 t317.length co32:Value).ownBlock) rfl rfl ?aP (fun k_ hk_=>hk_.elim (fun h_=>((Kd.R_mono (ok':=fun k_=>((fun k_=>k_≠gb307)) k_∧some k_≠(.slice Ao7 x4_1.length co7:Value).ownBlock) (Kd.R_types (Kd.R_apart' (HO313.out) (Kd.S_typed HO_4.out) de_) BK307.out de_) (fun k_ hk=>⟨hk.2,hk.1.2⟩))).1 k_ h_.symm) (fun h_=>h_.elim (fun h_=>((Kd.R_mono (ok':=fun k_=>((fun k_=>k_≠gb307)) k_∧some k_≠(.slice Ao7 x4_1.length co7:Value).ownBlock) (Kd.R_types (Kd.R_apart' (HO316.out) (Kd.S_typed HO_4.out) de_) BK307.out de_) (fun k_ hk=>⟨hk.2,hk.1.2⟩))).1 k_ h_.symm) (fun h_=>((Kd.R_mono (ok':=fun k_=>((fun k_=>k_≠gb307)) k_∧some k_≠(.slice Ao7 x4_1.length co7:Value).ownBlock) (Kd.R_types (Kd.R_apart' (HO319.out) (Kd.S_typed HO_4.out) de_) BK307.out de_) (fun k_ hk=>⟨hk.2,hk.1.2⟩))).1 k_ h_.symm))) ?aF ?aO ?aB ?aS ?aL ?_
             case aP=>exact k52_mkM _ _ _ (⟨(⟨t308,t309,t310,t311,t314,t317⟩:S26),t305.extract 0 32⟩:S52) (Kd.R_mono (Kd.R_tight rfl (Kd.R_mono (ok':=fun k_=>((fun k_=>k_≠gb307)) k_∧some k_≠(.slice Ao7 x4_1.length co7:Value).ownBlock) (Kd.R_types (Kd.R_apart' (HO313.out) (Kd.S_typed HO_4.out) de_) BK307.out de_) (fun k_ hk=>⟨hk.2,hk.1.2⟩))) (fun _ h_=>Or.inl h_)) (Kd.R_mono (Kd.R_tight rfl (Kd.R_mono (ok':=fun k_=>((fun k_=>k_≠gb307)) k_∧some k_≠(.slice Ao7 x4_1.length co7:Value).ownBlock) (Kd.R_types (Kd.R_apart' (HO316.out) (Kd.S_typed HO_4.out) de_) BK307.out de_) (fun k_ hk=>⟨hk.2,hk.1.2⟩))) (fun _ h_=>Or.inr (Or.inl h_))) (Kd.R_mono (Kd.R_tight rfl (Kd.R_mono (ok':=fun k_=>((fun k_=>k_≠gb307)) k_∧some k_≠(.slice Ao7 x4_1.length co7:Value).ownBlock) (Kd.R_types (Kd.R_apart' (HO319.out) (Kd.S_typed HO_4.out) de_) BK307.out de_) (fun k_ hk=>⟨hk.2,hk.1.2⟩))) (fun _ h_=>Or.inr (Or.inr (h_))))
             case aB=>exact HB.out
             case aF=>exact (fun k_ hk=>Kd.freshB BK307.out k_ hk)
             case aO=>exact Kd.S_mono HO_4.out (fun k_ hk=>⟨hk.1.1.1.2,fun e_=>e_.elim (fun h_=>hk.1.1.2 h_) (fun h_=>h_.elim (fun h_=>hk.1.2 h_) (fun h_=>hk.2 h_))⟩)
             case aS=>exact (below_size HB.out)
             case aL=>have:=LMc22.out;omega
             intro v325 w37 ho hb hg hat
             rw [← Ny324.out] at ho
             have n0_:=Aside0.mk (IsS84.grown HI303.out hg (IsS84.own_neS HI303.out HO_4.out de_))
             have n1_:=Aside0.mk (blk_grown BK307.out hg (Kd.S_away HO_4.out (fun _ hk=>hk.1.1.1.2)))
             have n2_:=Aside0.mk (hb)
             have HO326:=Aside0.mk (ho)
             clear HI303 BK307 BKr HB HO_4 HO313 HO316 HO319
             have HI303:=n0_
             have BK307:=n1_
             have HB:=n2_
             clear n0_ n1_ n2_ ho hb hg hat
             have BKr:=Aside0.mk HI303.out.1
             refine hK.out _ _ ⟨(blk_cell BK307.out 0).trans rfl,(blk_cell BK307.out 1).trans rfl,(blk_cell BK307.out 2).trans rfl,(blk_cell BK307.out 3).trans rfl,(blk_cell BK307.out 4).trans rfl,(blk_cell BK307.out 5).trans rfl,(blk_cell BK307.out 6).trans rfl,(blk_cell BKr.out 0).trans rfl⟩ (fun hHeld=>?_)
             clear hK K
             refine norm_ (a':=?_) ?_ ?_
             rotate_left
             ·show Act.put _ (some 74) _ = _
              simp only [Act.put,List.setIfInBounds_toArray,List.set_cons_zero,List.set_cons_succ,i64_w,i32_w]
              rfl
             refine pu_ 12 (some 4) #[true,true,true,true,true,true,true,true,true,true,true,true,true,false] ?_
             refine pu_ 13 (some 5) #[true,true,true,true,true,true,true,true,true,true,true,true,true,true] ?_
             refine done_ kr_ ?_
             go_wp2
             go_roundg kj5
             case measure=>have:=HK1.out;have:=HJ5.out;omega
             case rel=>exact ⟨(y324),(wrap64 ((a0.size:Int) - ((t305.extract 32 t305.size).size:Int))),(t305.extract 32 t305.size),(t306),rg_,H',⟨by have:=HK1.out;have:=HJ5.out;omega⟩,⟨by (with_reducible repeat (first|apply Kd.S_alloc|apply Kd.S_drewN|apply Kd.S_drew));exact Kd.S_mono HO326.out (fun _ hk=>trivial)⟩,⟨by repeat (first|(with_reducible first|exact HI303.out|apply IsS84.alloc|apply IsS84.drewN|apply IsS84.drew|apply IsS84.set_0|apply IsS84.set_1|refine IsS84.far ?_ NB303_307.out _)|exact HI303.out)⟩,⟨by repeat (first|(with_reducible first|exact HB.out|apply below_alloc|apply pw_below_drewN|apply below_drew1|refine below_set ?_ (IsS84.ge HI303.out)|refine below_set ?_ GE307.out)|exact HB.out)⟩⟩
            ·rw [if_neg c22] at H
             exact absurd H sm_
           ·rw [if_neg c21] at H
            have c21b0:((t305.extract 0 32).toList == t323.toList) = false:=beq_eq_false_iff_ne.mpr c21
            have c21b1:((t305.extract 0 32).toList != t323.toList) = true:=bne_iff_ne.mpr c21
            simp only [Option.some.injEq,Prod.mk.injEq] at H
            obtain ⟨rfl,rfl⟩:=H
            try go_wp2
            have n0_:=Aside0.mk (Kd.S_drew HO_4.out)
            have n1_:=Aside0.mk (Kd.R_drew HO313.out)
            have n2_:=Aside0.mk (Kd.R_drew HO316.out)
            have n3_:=Aside0.mk (Kd.R_drew HO319.out)
            have n4_:=Aside0.mk (blk_drew BK307.out)
            have n5_:=Aside0.mk (IsS84.drew HI303.out)
            have n6_:=Aside0.mk (below_drew1 HB.out)
            clear HO_4
            clear HO313
            clear HO316
            clear HO319
            clear BK307
            clear HI303
            clear HB
            have HO_4:=n0_
            have HO313:=n1_
            have HO316:=n2_
            have HO319:=n3_
            have BK307:=n4_
            have HI303:=n5_
            have HB:=n6_
            clear n0_ n1_ n2_ n3_ n4_ n5_ n6_
            refine start_ (n:=10) (S:=fun w'=>w'.cell? ⟨gb307,0,none⟩ = some (.int .i64 t308)∧w'.cell? ⟨gb307,1,none⟩ = some (.int .i64 t309)∧w'.cell? ⟨gb307,2,none⟩ = some (.int .i64 t310)∧w'.cell? ⟨gb307,3,none⟩ = some (.slice Ao30 t311.length co30)∧w'.cell? ⟨gb307,4,none⟩ = some (.slice Ao31 t314.length co31)∧w'.cell? ⟨gb307,5,none⟩ = some (.slice Ao32 t317.length co32)∧w'.cell? ⟨gb307,6,none⟩ = some (.string (t305.extract 0 32))) (ds:=[]) #[false,false,false,false,false,false,false,false,false,false] kr_ rfl rfl hc_ (fun hHeld=>?_);refine with_tabW record_Recover.tab13 record_Recover.bits13 (fun HT_ HW_=>?_)
            generalize w33.drew = w50 at HO_4 HO313 HO316 HO319 BK307 HI303 HB hHeld ⊢
            refine pu_ 0 (some 61) #[true,false,false,false,false,false,false,false,false,false] ?_
            refine pu_ 1 (some 62) #[true,true,false,false,false,false,false,false,false,false] ?_
            refine pu_ 2 (some 63) #[true,true,true,false,false,false,false,false,false,false] ?_
            refine pu_ 3 (some 64) #[true,true,true,true,false,false,false,false,false,false] ?_
            refine pu_ 5 (some 66) #[true,true,true,true,false,true,false,false,false,false] ?_
            refine pu_ 6 (some 67) #[true,true,true,true,false,true,true,false,false,false] ?_
            refine tk_ 4 (some 65) #[true,true,true,true,true,true,true,false,false,false] hHeld ?_
            refine oc_ 7 (some 68) #[true,true,true,true,true,true,true,true,false,false] Tryz.func61 #[.slice Ao7 x4_1.length co7,.string t304] (fun K hK=>?_)
            with_reducible refine (record_seal.calls _ _ x4_1 t304 t323 _ ?side1 ?side2 A20.out).mono ?_
            (case side1=>exact cx_ ((Kd.S_reads' HO_4.out).2.2))
            (case side2=>exact (Kd.S_reads' HO_4.out).2.1)
            rintro e w51 ⟨rfl,hb⟩
            refine ⟨_,rfl,?_⟩
            have n0_:=Aside0.mk (Kd.S_below (by (with_reducible repeat (first|apply Kd.S_alloc|apply Kd.S_drewN|apply Kd.S_drew));exact HO_4.out) hb)
            have n1_:=Aside0.mk (Kd.R_below (by (with_reducible repeat (first|apply Kd.R_alloc|apply Kd.R_drewN|apply Kd.R_drew));exact HO313.out) hb)
            have n2_:=Aside0.mk (Kd.R_below (by (with_reducible repeat (first|apply Kd.R_alloc|apply Kd.R_drewN|apply Kd.R_drew));exact HO316.out) hb)
            have n3_:=Aside0.mk (Kd.R_below (by (with_reducible repeat (first|apply Kd.R_alloc|apply Kd.R_drewN|apply Kd.R_drew));exact HO319.out) hb)
            have n4_:=Aside0.mk (IsS84.below (by repeat (first|(with_reducible first|exact HI303.out|apply IsS84.alloc|apply IsS84.drewN|apply IsS84.drew|apply IsS84.set_0|apply IsS84.set_1|refine IsS84.far ?_ NB303_307.out _)|exact HI303.out)) hb)
            have n5_:=Aside0.mk (blk_below (g:=gb307) (o:=.cells #[.int .i64 t308,.int .i64 t309,.int .i64 t310,.slice Ao30 t311.length co30,.slice Ao31 t314.length co31,.slice Ao32 t317.length co32,.string (t305.extract 0 32)] 52 (0,0)) (by (with_reducible repeat (first|refine blk_drewN ?_ _|refine blk_drew ?_|refine blk_alloc ?_ _));exact BK307.out) hb)
            have n6_:=Aside0.mk (below_step (by repeat (first|(with_reducible first|exact HB.out|apply below_alloc|apply pw_below_drewN|apply below_drew1|refine below_set ?_ (IsS84.ge HI303.out)|refine below_set ?_ GE307.out)|exact HB.out)) hb)
            clear HO_4
            clear HO313
            clear HO316
            clear HO319
            clear HI303
            clear BK307
            clear HB
            have HO_4:=n0_
            have HO313:=n1_
            have HO316:=n2_
            have HO319:=n3_
            have HI303:=n4_
            have BK307:=n5_
            have HB:=n6_
            clear n0_ n1_ n2_ n3_ n4_ n5_ n6_
            (try clear hb)
            refine hk_ hK (fun hHeld=>?_);clear hK K
            refine pu_ 8 (some 69) #[true,true,true,true,true,true,true,true,true,false] ?_
            refine pu_ 9 (some 70) #[true,true,true,true,true,true,true,true,true,true] ?_
            refine done_ (done_of HT_.out kr_) ?_
            try go_wp2
            go_ret2
            exact ⟨_,rf_,by (with_reducible repeat (first|apply Kd.S_alloc|apply Kd.S_drewN|apply Kd.S_drew));exact Kd.S_mono HO_4.out (fun _ hk=>trivial),by repeat (first|(with_reducible first|exact HB.out|apply below_alloc|apply pw_below_drewN|apply below_drew1|refine below_set ?_ (IsS84.ge HI303.out)|refine below_set ?_ GE307.out)|exact HB.out)⟩
          ·rw [if_neg c19] at H
           have c19b0:(t322 == 0) = false:=beq_eq_false_iff_ne.mpr c19
           have c19b1:(t322 != 0) = true:=bne_iff_ne.mpr c19
           simp only [Option.some.injEq,Prod.mk.injEq] at H
           obtain ⟨rfl,rfl⟩:=H
           try go_wp2
           have n0_:=Aside0.mk (Kd.S_drew HO_4.out)
           have n1_:=Aside0.mk (Kd.R_drew HO313.out)
           have n2_:=Aside0.mk (Kd.R_drew HO316.out)
           have n3_:=Aside0.mk (Kd.R_drew HO319.out)
           have n4_:=Aside0.mk (blk_drew BK307.out)
           have n5_:=Aside0.mk (IsS84.drew HI303.out)
           have n6_:=Aside0.mk (below_drew1 HB.out)
           clear HO_4
           clear HO313
           clear HO316
           clear HO319
           clear BK307
           clear HI303
           clear HB
           have HO_4:=n0_
           have HO313:=n1_
           have HO316:=n2_
           have HO319:=n3_
           have BK307:=n4_
           have HI303:=n5_
           have HB:=n6_
           clear n0_ n1_ n2_ n3_ n4_ n5_ n6_
           refine start_ (n:=10) (S:=fun w'=>True) (ds:=[]) #[false,false,false,false,false,false,false,false,false,false] kr_ rfl rfl trivial (fun hHeld=>?_);refine with_tabW record_Recover.tab13 record_Recover.bits13 (fun HT_ HW_=>?_)
           generalize w33.drew = w63 at HO_4 HO313 HO316 HO319 BK307 HI303 HB hHeld ⊢
           refine pu_ 0 (some 61) #[true,false,false,false,false,false,false,false,false,false] ?_
           refine pu_ 1 (some 62) #[true,true,false,false,false,false,false,false,false,false] ?_
           refine pu_ 2 (some 63) #[true,true,true,false,false,false,false,false,false,false] ?_
           refine pure_ (i:=3) (N:=some 64) (v:=undef) (a':=?_) #[true,true,true,true,false,false,false,false,false,false] rfl rfl (any_of HT_.out kr_) (fun _ _ _ h=>h) (Or.inr ⟨by rfl,rfl⟩) ?_ ?_
           rotate_left
           ·simp only [Act.put,List.setIfInBounds_toArray,List.set_cons_zero,List.set_cons_succ,i64_w,i32_w]
            rfl
           refine pure_ (i:=4) (N:=some 65) (v:=undef) (a':=?_) #[true,true,true,true,true,false,false,false,false,false] rfl rfl (any_of HT_.out kr_) (fun _ _ _ h=>h) (Or.inr ⟨by rfl,rfl⟩) ?_ ?_
           rotate_left
           ·simp only [Act.put,List.setIfInBounds_toArray,List.set_cons_zero,List.set_cons_succ,i64_w,i32_w]
            rfl
           refine pure_ (i:=5) (N:=some 66) (v:=undef) (a':=?_) #[true,true,true,true,true,true,false,false,false,false] rfl rfl (any_of HT_.out kr_) (fun _ _ _ h=>h) (Or.inr ⟨by rfl,rfl⟩) ?_ ?_
           rotate_left
           ·simp only [Act.put,List.setIfInBounds_toArray,List.set_cons_zero,List.set_cons_succ,i64_w,i32_w]
            rfl
           refine pure_ (i:=6) (N:=some 67) (v:=undef) (a':=?_) #[true,true,true,true,true,true,true,false,false,false] rfl rfl (any_of HT_.out kr_) (fun _ _ _ h=>h) (Or.inr ⟨by rfl,rfl⟩) ?_ ?_
           rotate_left
           ·simp only [Act.put,List.setIfInBounds_toArray,List.set_cons_zero,List.set_cons_succ,i64_w,i32_w]
            rfl
           refine pure_ (i:=7) (N:=some 68) (v:=undef) (a':=?_) #[true,true,true,true,true,true,true,true,false,false] rfl rfl (any_of HT_.out kr_) (fun _ _ _ h=>h) (Or.inr ⟨by rfl,rfl⟩) ?_ ?_
           rotate_left
           ·simp only [Act.put,List.setIfInBounds_toArray,List.set_cons_zero,List.set_cons_succ,i64_w,i32_w]
            rfl
           refine pure_ (i:=8) (N:=some 69) (v:=undef) (a':=?_) #[true,true,true,true,true,true,true,true,true,false] rfl rfl (any_of HT_.out kr_) (fun _ _ _ h=>h) (Or.inr ⟨by rfl,rfl⟩) ?_ ?_
           rotate_left
           ·simp only [Act.put,List.setIfInBounds_toArray,List.set_cons_zero,List.set_cons_succ,i64_w,i32_w]
            rfl
           refine pu_ 9 (some 70) #[true,true,true,true,true,true,true,true,true,true] ?_
           refine done_ (done_of HT_.out kr_) ?_
           try go_wp2
           go_ret2
           exact ⟨_,rf_,by (with_reducible repeat (first|apply Kd.S_alloc|apply Kd.S_drewN|apply Kd.S_drew));exact Kd.S_mono HO_4.out (fun _ hk=>trivial),by repeat (first|(with_reducible first|exact HB.out|apply below_alloc|apply pw_below_drewN|apply below_drew1|refine below_set ?_ (IsS84.ge HI303.out)|refine below_set ?_ GE307.out)|exact HB.out)⟩
         ·rw [if_neg c17] at H
          have c17b0:(t320 == 0) = false:=beq_eq_false_iff_ne.mpr c17
          have c17b1:(t320 != 0) = true:=bne_iff_ne.mpr c17
          simp only [Option.some.injEq,Prod.mk.injEq] at H
          obtain ⟨rfl,rfl⟩:=H
          go_wp2
          go_ret2
          exact ⟨_,rf_,by (with_reducible repeat (first|apply Kd.S_alloc|apply Kd.S_drewN|apply Kd.S_drew));exact Kd.S_mono (Kd.S_far (p:=⟨gb307,5,none⟩) (Kd.S_far (p:=⟨gb307,4,none⟩) (Kd.S_far (p:=⟨gb307,3,none⟩) (Kd.S_far (p:=⟨gb307,2,none⟩) (Kd.S_far (p:=⟨gb307,1,none⟩) (Kd.S_far (p:=⟨gb307,0,none⟩) (Kd.S_mono HO_4.out (fun k_ hk=>(⟨hk,hk.1.1.1.2⟩:_∧k_≠gb307))) (fun _ hk=>hk.2) (.int .i64 t308)) (fun _ hk=>hk.2) (.int .i64 t309)) (fun _ hk=>hk.2) (.int .i64 t310)) (fun _ hk=>hk.2) (.slice Ao30 t311.length co30)) (fun _ hk=>hk.2) (.slice Ao31 t314.length co31)) (fun _ hk=>hk.2) (.slice Ao32 t317.length co32)) (fun _ hk=>trivial),by repeat (first|(with_reducible first|exact HB.out|apply below_alloc|apply pw_below_drewN|apply below_drew1|refine below_set ?_ (IsS84.ge HI303.out)|refine below_set ?_ GE307.out)|exact HB.out)⟩
        ·rw [if_neg c14] at H
         exact absurd H sm_
       ·rw [if_neg c13] at H
        exact absurd H sm_
   ·rw [if_neg c4] at H
    have c4b0:decide ((x4_1.length:Int) < 1024) = false:=decide_eq_false c4
    have c4b1:decide (x4_1.length < 1024) = false:=decide_eq_false (by omega)
    clear c4
    simp only [Option.some.injEq,Prod.mk.injEq] at H
    obtain ⟨rfl,rfl⟩:=H
    obtain ⟨Ao74,co74,eo74⟩:=Kd.S_slice HO_4.out
    subst eo74
    go_wp2
    go_ret2
    exact ⟨_,rf_,by (with_reducible repeat (first|apply Kd.S_alloc|apply Kd.S_drewN|apply Kd.S_drew));exact HO_4.out,by repeat (first|(with_reducible first|exact HB.out|apply below_alloc|apply pw_below_drewN|apply below_drew1|refine below_set ?_ (IsS84.ge HI303.out))|exact HB.out)⟩
end Go.Proofs.YtcmbggahndfnnaaGreatDoor.Pr
namespace Go.Proofs.YtcmbggahndfnnaaGreatDoor.Pr
open Go.RowKit Go.Proofs.YtcmbggahndfnnaaGreatDoorW.PrintWords Go.Proofs.YtcmbggahndfnnaaGreatDoorW.PrintLast Go.Proofs.YtcmbggahndfnnaaGreatDoorW.PrintMore
attribute [local go_sem] max2_int min2_int max_two min_two max_three min_three max_four min_four
set_option maxHeartbeats 8000000
set_option maxRecDepth 100000
set_option linter.unusedVariables false
set_option linter.unusedSimpArgs false
def garboardref57_Same.l0:Nat→List (S52)→List (S52)→Int→Option (Bool)
 | 0,_,_,_=>none
 | k + 1,x0,x1,x5=>if x5 < (x0.length:Int) then (if 0≤x5 then (if x5 < (x1.length:Int) then (if ((rd_T52 x0 x5).f1).toList = ((rd_T52 x1 x5).f1).toList then ((garboardref57_SameEvent.f k ((rd_T52 x0 x5).f0.f0) ((rd_T52 x0 x5).f0.f1) ((rd_T52 x0 x5).f0.f2) ((rd_T52 x0 x5).f0.f3) ((rd_T52 x0 x5).f0.f4) ((rd_T52 x0 x5).f0.f5) ((rd_T52 x1 x5).f0.f0) ((rd_T52 x1 x5).f0.f1) ((rd_T52 x1 x5).f0.f2) ((rd_T52 x1 x5).f0.f3) ((rd_T52 x1 x5).f0.f4) ((rd_T52 x1 x5).f0.f5)).bind fun t339=>(if t339 = true then (garboardref57_Same.l0 k x0 x1 (wrap64 (x5 + 1))) else (some false))) else (some false)) else (none)) else (none)) else (some true)
def garboardref57_Same.f (k:Nat) (l0:List (S52)) (l1:List (S52)):Option (Bool):=if (l0.length:Int) = (l1.length:Int) then (garboardref57_Same.l0 k l0 l1 0) else (some false)
theorem garboardref57_Same.mono_l:∀ k,(∀ y0 y1 y2,LeO (garboardref57_Same.l0 k y0 y1 y2) (garboardref57_Same.l0 (k + 1) y0 y1 y2))
 | 0=>fun _ _ _ r h=>by simp [garboardref57_Same.l0] at h
 | k + 1=>by
  have ih0:=garboardref57_Same.mono_l k
  ·intro y0 y1 y2
   unfold garboardref57_Same.l0
   repeat' first
   | (with_reducible exact ih0 _ _ _)
   | (with_reducible exact garboardref57_SameEvent.mono _ _ _ _ _ _ _ _ _ _ _ _ _)
   | (with_reducible exact LeO.refl _)
   | (with_reducible exact LeO.none _)
   | (with_reducible refine LeO.ite ?_ ?_)
   | (with_reducible refine LeO.bind ?_ (fun _=>?_))
   | exact ih0 _ _ _
   | exact garboardref57_SameEvent.mono _ _ _ _ _ _ _ _ _ _ _ _ _
   | exact LeO.none _
   | refine LeO.ite ?_ ?_
   | refine LeO.bind ?_ (fun _=>?_)
theorem garboardref57_Same.mono:∀ a0 a1 k,LeO (garboardref57_Same.f k a0 a1) (garboardref57_Same.f (k + 1) a0 a1):=by
 intro a0 a1 k
 have ih0:=garboardref57_Same.mono_l k
 unfold garboardref57_Same.f
 repeat' first
   | (with_reducible exact ih0 _ _ _)
   | (with_reducible exact garboardref57_SameEvent.mono _ _ _ _ _ _ _ _ _ _ _ _ _)
   | (with_reducible exact LeO.refl _)
   | (with_reducible exact LeO.none _)
   | (with_reducible refine LeO.ite ?_ ?_)
   | (with_reducible refine LeO.bind ?_ (fun _=>?_))
   | exact ih0 _ _ _
   | exact garboardref57_SameEvent.mono _ _ _ _ _ _ _ _ _ _ _ _ _
   | exact LeO.none _
   | refine LeO.ite ?_ ?_
   | refine LeO.bind ?_ (fun _=>?_)
def garboardref57_Same.T6:Bool × List (List Nat × List Nat):=(true,[([],[]),([],[]),([0,1],[0,1]),([2],[2]),([3],[3]),([],[]),([],[]),([5,6],[5,6]),([7],[7]),([8],[8]),([4,9],[4,9]),([10],[10]),([11],[11]),([11],[11]),([12,13,11],[11,12,13]),([14,11],[11,14]),([15,11],[11,15]),([11],[11]),([11],[11]),([17,18,11],[11,17,18]),([19,11],[11,19]),([20,11],[11,20]),([16,21,11,11],[11,16,21]),([22,11],[11,22]),([11,23],[11,23])])
def garboardref57_Same.B6:List Nat:=[0,0,3,7,15,0,0,96,224,480,1023,2047,4095,4095,16383,32767,65535,4095,4095,397311,921599,1970175,4194303,8388607,16777215]
theorem garboardref57_Same.tab6:rtab .any (opsOf Tryz.f24 6) = garboardref57_Same.T6:=by kernel_rfl
theorem garboardref57_Same.bits6:waitsOk garboardref57_Same.T6.2 garboardref57_Same.B6 = true:=by kernel_rfl
theorem garboardref57_Same.calls (k:Nat) (A0:Option Addr) (c0:Nat) (l0:List (S52)) (A1:Option Addr) (c1:Nat) (l1:List (S52)) (r:Bool) (w:World) (hr0:Kd.C k52 w A0 l0.length l0) (hc0:l0.length≤c0) (hr1:Kd.C k52 w A1 l1.length l1) (hc1:l1.length≤c1) (h:garboardref57_Same.f k l0 l1 = some r) :
  Calls Tryz.prog 24 #[.slice A0 l0.length c0,.slice A1 l1.length c1] w fun e w'=>e = .returned (.bool r)∧Below w.heap.size w w':=by
 have hu26:=Tryz.underlying26
 have HR0:=Aside0.mk hr0
 have HC0:=Aside0.mk hc0
 clear hr0 hc0
 have HR1:=Aside0.mk hr1
 have HC1:=Aside0.mk hc1
 clear hr1 hc1
 have HB:=Aside0.mk (Below.refl w.heap.size w)
 have H:=h;clear h;unfold garboardref57_Same.f at H
 by_cases c3:(l0.length:Int) = (l1.length:Int)
 ·rw [if_pos c3] at H
  have c3b0:((l0.length:Int) == (l1.length:Int)) = true:=beq_iff_eq.mpr c3
  have c3b1:((l0.length:Int) != (l1.length:Int)) = false:=bne_eq_false_iff_eq.mpr c3
  have c3b2:(l0.length == l1.length) = true:=by first|simpa using c3|(simp at c3 ⊢;omega)
  clear c3
  have H':=Aside0.mk H
  clear H
  go_enter Tryz.func24,Tryz.ntmps24
  go_wp2
  go_loopg [5] k (fun kq v5 w'=>∃ (x5_1:Int),v5 = .int .i64 x5_1∧Aside0 (garboardref57_Same.l0 kq l0 l1 x5_1 = some r)∧Aside0 (kq≤k)∧Aside0 (Below w.heap.size w w'))
  case atStart=>exact ⟨(0),rg_,H',⟨Nat.le_refl _⟩,⟨bx_⟩⟩
  case round =>
   clear H'
   try clear c1
   try clear c3
   try clear c3b0
   try clear c3b1
   try clear c3b2
   obtain ⟨x5_1,rfl,HA,HK1,HB⟩:=hrel
   cases gk with
   | zero=>exact absurd HA.out (by simp [garboardref57_Same.l0])
   | succ k1 =>
    have H:=HA.out
    clear HA
    simp only [garboardref57_Same.l0] at H
    by_cases c4:x5_1 < (l0.length:Int)
    ·rw [if_pos c4] at H
     have c4b0:decide (x5_1 < (l0.length:Int)) = true:=decide_eq_true c4
     clear c4
     by_cases c5:0≤x5_1
     ·rw [if_pos c5] at H
      have c5b0:decide (0≤x5_1) = true:=decide_eq_true c5
      clear c5
      by_cases c6:x5_1 < (l1.length:Int)
      ·rw [if_pos c6] at H
       have c6b0:decide (x5_1 < (l1.length:Int)) = true:=decide_eq_true c6
       clear c6
       by_cases c7:((rd_T52 l0 x5_1).f1).toList = ((rd_T52 l1 x5_1).f1).toList
       ·rw [if_pos c7] at H
        have c7b0:(((rd_T52 l0 x5_1).f1).toList == ((rd_T52 l1 x5_1).f1).toList) = true:=beq_iff_eq.mpr c7
        have c7b1:(((rd_T52 l0 x5_1).f1).toList != ((rd_T52 l1 x5_1).f1).toList) = false:=bne_eq_false_iff_eq.mpr c7
        clear c7
        obtain ⟨t339,A8,H⟩:=bn_ H
        by_cases c9:t339 = true
        ·subst c9
         have H1:(garboardref57_Same.l0 k1 l0 l1 (wrap64 (x5_1 + 1))) = some r:=by rw [if_pos rfl] at H;exact H
         clear H
         have H:=H1
         clear H1
         have H':=Aside0.mk H
         clear H
         try go_wp2
         replace HB:=db_ HB
         have p335:0≤(x5_1:Int):=da_
         have q335:x5_1 < (l0.length:Int):=da_
         obtain ⟨ad335,A335_3,c335_3,A335_4,c335_4,A335_5,c335_5,e335,hx335_0,hx335_1,hx335_2,hx335_3,hx335_4,hx335_5,hx335_6,hl335_3,hi335_3,hl335_4,hi335_4,hl335_5,hi335_5⟩:=at_T52 HR0.out x5_1 p335 q335
         have hw335_6:=hx335_6
         have hw335_5:=hx335_5
         have hw335_4:=hx335_4
         have hw335_3:=hx335_3
         have hw335_2:=hx335_2
         have hw335_1:=hx335_1
         have hw335_0:=hx335_0
         cases e335
         replace hx335_0:=(HB.out.cell (World.block_lt_of_cell? w _ hx335_0)).trans hx335_0
         replace hx335_1:=(HB.out.cell (World.block_lt_of_cell? w _ hx335_1)).trans hx335_1
         replace hx335_2:=(HB.out.cell (World.block_lt_of_cell? w _ hx335_2)).trans hx335_2
         replace hx335_3:=(HB.out.cell (World.block_lt_of_cell? w _ hx335_3)).trans hx335_3
         replace hx335_4:=(HB.out.cell (World.block_lt_of_cell? w _ hx335_4)).trans hx335_4
         replace hx335_5:=(HB.out.cell (World.block_lt_of_cell? w _ hx335_5)).trans hx335_5
         replace hx335_6:=(HB.out.cell (World.block_lt_of_cell? w _ hx335_6)).trans hx335_6
         have HR335_3:=Aside0.mk hi335_3
         have HC335_3:=Aside0.mk hl335_3
         clear hi335_3 hl335_3
         have HR335_4:=Aside0.mk hi335_4
         have HC335_4:=Aside0.mk hl335_4
         clear hi335_4 hl335_4
         have HR335_5:=Aside0.mk hi335_5
         have HC335_5:=Aside0.mk hl335_5
         clear hi335_5 hl335_5
         replace p335:=eq_true p335
         replace q335:=eq_true q335
         have p336:0≤(x5_1:Int):=da_
         have q336:x5_1 < (l1.length:Int):=da_
         obtain ⟨ad336,A336_3,c336_3,A336_4,c336_4,A336_5,c336_5,e336,hx336_0,hx336_1,hx336_2,hx336_3,hx336_4,hx336_5,hx336_6,hl336_3,hi336_3,hl336_4,hi336_4,hl336_5,hi336_5⟩:=at_T52 HR1.out x5_1 p336 q336
         have hw336_6:=hx336_6
         have hw336_5:=hx336_5
         have hw336_4:=hx336_4
         have hw336_3:=hx336_3
         have hw336_2:=hx336_2
         have hw336_1:=hx336_1
         have hw336_0:=hx336_0
         cases e336
         replace hx336_0:=(HB.out.cell (World.block_lt_of_cell? w _ hx336_0)).trans hx336_0
         replace hx336_1:=(HB.out.cell (World.block_lt_of_cell? w _ hx336_1)).trans hx336_1
         replace hx336_2:=(HB.out.cell (World.block_lt_of_cell? w _ hx336_2)).trans hx336_2
         replace hx336_3:=(HB.out.cell (World.block_lt_of_cell? w _ hx336_3)).trans hx336_3
         replace hx336_4:=(HB.out.cell (World.block_lt_of_cell? w _ hx336_4)).trans hx336_4
         replace hx336_5:=(HB.out.cell (World.block_lt_of_cell? w _ hx336_5)).trans hx336_5
         replace hx336_6:=(HB.out.cell (World.block_lt_of_cell? w _ hx336_6)).trans hx336_6
         have HR336_3:=Aside0.mk hi336_3
         have HC336_3:=Aside0.mk hl336_3
         clear hi336_3 hl336_3
         have HR336_4:=Aside0.mk hi336_4
         have HC336_4:=Aside0.mk hl336_4
         clear hi336_4 hl336_4
         have HR336_5:=Aside0.mk hi336_5
         have HC336_5:=Aside0.mk hl336_5
         clear hi336_5 hl336_5
         replace p336:=eq_true p336
         replace q336:=eq_true q336
         have p337:0≤(x5_1:Int):=da_
         have q337:x5_1 < (l0.length:Int):=da_
         obtain ⟨ad337,A337_3,c337_3,A337_4,c337_4,A337_5,c337_5,e337,hx337_0,hx337_1,hx337_2,hx337_3,hx337_4,hx337_5,hx337_6,hl337_3,hi337_3,hl337_4,hi337_4,hl337_5,hi337_5⟩:=at_T52 HR0.out x5_1 p337 q337
         have hw337_6:=hx337_6
         have hw337_5:=hx337_5
         have hw337_4:=hx337_4
         have hw337_3:=hx337_3
         have hw337_2:=hx337_2
         have hw337_1:=hx337_1
         have hw337_0:=hx337_0
         obtain rfl:ad335 = ad337:=(by injection e337)
         replace hx337_0:=(HB.out.cell (World.block_lt_of_cell? w _ hx337_0)).trans hx337_0
         replace hx337_1:=(HB.out.cell (World.block_lt_of_cell? w _ hx337_1)).trans hx337_1
         replace hx337_2:=(HB.out.cell (World.block_lt_of_cell? w _ hx337_2)).trans hx337_2
         replace hx337_3:=(HB.out.cell (World.block_lt_of_cell? w _ hx337_3)).trans hx337_3
         replace hx337_4:=(HB.out.cell (World.block_lt_of_cell? w _ hx337_4)).trans hx337_4
         replace hx337_5:=(HB.out.cell (World.block_lt_of_cell? w _ hx337_5)).trans hx337_5
         replace hx337_6:=(HB.out.cell (World.block_lt_of_cell? w _ hx337_6)).trans hx337_6
         have HR337_3:=Aside0.mk hi337_3
         have HC337_3:=Aside0.mk hl337_3
         clear hi337_3 hl337_3
         have HR337_4:=Aside0.mk hi337_4
         have HC337_4:=Aside0.mk hl337_4
         clear hi337_4 hl337_4
         have HR337_5:=Aside0.mk hi337_5
         have HC337_5:=Aside0.mk hl337_5
         clear hi337_5 hl337_5
         replace p337:=eq_true p337
         replace q337:=eq_true q337
         have ea_:=Option.some.inj (hx335_3.symm.trans hx337_3)
         injection ea_ with ea_ en_ ec_
         subst ea_
         subst ec_
         clear en_
         have ea_:=Option.some.inj (hx335_4.symm.trans hx337_4)
         injection ea_ with ea_ en_ ec_
         subst ea_
         subst ec_
         clear en_
         have ea_:=Option.some.inj (hx335_5.symm.trans hx337_5)
         injection ea_ with ea_ en_ ec_
         subst ea_
         subst ec_
         clear en_
         have p338:0≤(x5_1:Int):=da_
         have q338:x5_1 < (l1.length:Int):=da_
         obtain ⟨ad338,A338_3,c338_3,A338_4,c338_4,A338_5,c338_5,e338,hx338_0,hx338_1,hx338_2,hx338_3,hx338_4,hx338_5,hx338_6,hl338_3,hi338_3,hl338_4,hi338_4,hl338_5,hi338_5⟩:=at_T52 HR1.out x5_1 p338 q338
         have hw338_6:=hx338_6
         have hw338_5:=hx338_5
         have hw338_4:=hx338_4
         have hw338_3:=hx338_3
         have hw338_2:=hx338_2
         have hw338_1:=hx338_1
         have hw338_0:=hx338_0
         obtain rfl:ad336 = ad338:=(by injection e338)
         replace hx338_0:=(HB.out.cell (World.block_lt_of_cell? w _ hx338_0)).trans hx338_0
         replace hx338_1:=(HB.out.cell (World.block_lt_of_cell? w _ hx338_1)).trans hx338_1
         replace hx338_2:=(HB.out.cell (World.block_lt_of_cell? w _ hx338_2)).trans hx338_2
         replace hx338_3:=(HB.out.cell (World.block_lt_of_cell? w _ hx338_3)).trans hx338_3
         replace hx338_4:=(HB.out.cell (World.block_lt_of_cell? w _ hx338_4)).trans hx338_4
         replace hx338_5:=(HB.out.cell (World.block_lt_of_cell? w _ hx338_5)).trans hx338_5
         replace hx338_6:=(HB.out.cell (World.block_lt_of_cell? w _ hx338_6)).trans hx338_6
         have HR338_3:=Aside0.mk hi338_3
         have HC338_3:=Aside0.mk hl338_3
         clear hi338_3 hl338_3
         have HR338_4:=Aside0.mk hi338_4
         have HC338_4:=Aside0.mk hl338_4
         clear hi338_4 hl338_4
         have HR338_5:=Aside0.mk hi338_5
         have HC338_5:=Aside0.mk hl338_5
         clear hi338_5 hl338_5
         replace p338:=eq_true p338
         replace q338:=eq_true q338
         have ea_:=Option.some.inj (hx336_3.symm.trans hx338_3)
         injection ea_ with ea_ en_ ec_
         subst ea_
         subst ec_
         clear en_
         have ea_:=Option.some.inj (hx336_4.symm.trans hx338_4)
         injection ea_ with ea_ en_ ec_
         subst ea_
         subst ec_
         clear en_
         have ea_:=Option.some.inj (hx336_5.symm.trans hx338_5)
         injection ea_ with ea_ en_ ec_
         subst ea_
         subst ec_
         clear en_
         refine start_ (n:=25) (S:=fun w'=>w'.cell? (ad335.add ((x5_1).toNat * 7)) = some (.int .i64 ((rd_T52 l0 x5_1).f0.f0))∧w'.cell? ⟨(ad335.add ((x5_1).toNat * 7)).block,(ad335.add ((x5_1).toNat * 7)).off + 1,none⟩ = some (.int .i64 ((rd_T52 l0 x5_1).f0.f1))∧w'.cell? ⟨(ad335.add ((x5_1).toNat * 7)).block,(ad335.add ((x5_1).toNat * 7)).off + 2,none⟩ = some (.int .i64 ((rd_T52 l0 x5_1).f0.f2))∧w'.cell? ⟨(ad335.add ((x5_1).toNat * 7)).block,(ad335.add ((x5_1).toNat * 7)).off + 3,none⟩ = some (.slice A335_3 ((rd_T52 l0 x5_1).f0.f3).length c335_3)∧w'.cell? ⟨(ad335.add ((x5_1).toNat * 7)).block,(ad335.add ((x5_1).toNat * 7)).off + 4,none⟩ = some (.slice A335_4 ((rd_T52 l0 x5_1).f0.f4).length c335_4)∧w'.cell? ⟨(ad335.add ((x5_1).toNat * 7)).block,(ad335.add ((x5_1).toNat * 7)).off + 5,none⟩ = some (.slice A335_5 ((rd_T52 l0 x5_1).f0.f5).length c335_5)∧w'.cell? ⟨(ad335.add ((x5_1).toNat * 7)).block,(ad335.add ((x5_1).toNat * 7)).off + 6,none⟩ = some (.string ((rd_T52 l0 x5_1).f1))∧w'.cell? (ad336.add ((x5_1).toNat * 7)) = some (.int .i64 ((rd_T52 l1 x5_1).f0.f0))∧w'.cell? ⟨(ad336.add ((x5_1).toNat * 7)).block,(ad336.add ((x5_1).toNat * 7)).off + 1,none⟩ = some (.int .i64 ((rd_T52 l1 x5_1).f0.f1))∧w'.cell? ⟨(ad336.add ((x5_1).toNat * 7)).block,(ad336.add ((x5_1).toNat * 7)).off + 2,none⟩ = some (.int .i64 ((rd_T52 l1 x5_1).f0.f2))∧w'.cell? ⟨(ad336.add ((x5_1).toNat * 7)).block,(ad336.add ((x5_1).toNat * 7)).off + 3,none⟩ = some (.slice A336_3 ((rd_T52 l1 x5_1).f0.f3).length c336_3)∧w'.cell? ⟨(ad336.add ((x5_1).toNat * 7)).block,(ad336.add ((x5_1).toNat * 7)).off + 4,none⟩ = some (.slice A336_4 ((rd_T52 l1 x5_1).f0.f4).length c336_4)∧w'.cell? ⟨(ad336.add ((x5_1).toNat * 7)).block,(ad336.add ((x5_1).toNat * 7)).off + 5,none⟩ = some (.slice A336_5 ((rd_T52 l1 x5_1).f0.f5).length c336_5)∧w'.cell? ⟨(ad336.add ((x5_1).toNat * 7)).block,(ad336.add ((x5_1).toNat * 7)).off + 6,none⟩ = some (.string ((rd_T52 l1 x5_1).f1))∧w'.cell? (ad335.add ((x5_1).toNat * 7)) = some (.int .i64 ((rd_T52 l0 x5_1).f0.f0))∧w'.cell? ⟨(ad335.add ((x5_1).toNat * 7)).block,(ad335.add ((x5_1).toNat * 7)).off + 1,none⟩ = some (.int .i64 ((rd_T52 l0 x5_1).f0.f1))∧w'.cell? ⟨(ad335.add ((x5_1).toNat * 7)).block,(ad335.add ((x5_1).toNat * 7)).off + 2,none⟩ = some (.int .i64 ((rd_T52 l0 x5_1).f0.f2))∧w'.cell? ⟨(ad335.add ((x5_1).toNat * 7)).block,(ad335.add ((x5_1).toNat * 7)).off + 3,none⟩ = some (.slice A335_3 ((rd_T52 l0 x5_1).f0.f3).length c335_3)∧w'.cell? ⟨(ad335.add ((x5_1).toNat * 7)).block,(ad335.add ((x5_1).toNat * 7)).off + 4,none⟩ = some (.slice A335_4 ((rd_T52 l0 x5_1).f0.f4).length c335_4)∧w'.cell? ⟨(ad335.add ((x5_1).toNat * 7)).block,(ad335.add ((x5_1).toNat * 7)).off + 5,none⟩ = some (.slice A335_5 ((rd_T52 l0 x5_1).f0.f5).length c335_5)∧w'.cell? ⟨(ad335.add ((x5_1).toNat * 7)).block,(ad335.add ((x5_1).toNat * 7)).off + 6,none⟩ = some (.string ((rd_T52 l0 x5_1).f1))∧w'.cell? (ad336.add ((x5_1).toNat * 7)) = some (.int .i64 ((rd_T52 l1 x5_1).f0.f0))∧w'.cell? ⟨(ad336.add ((x5_1).toNat * 7)).block,(ad336.add ((x5_1).toNat * 7)).off + 1,none⟩ = some (.int .i64 ((rd_T52 l1 x5_1).f0.f1))∧w'.cell? ⟨(ad336.add ((x5_1).toNat * 7)).block,(ad336.add ((x5_1).toNat * 7)).off + 2,none⟩ = some (.int .i64 ((rd_T52 l1 x5_1).f0.f2))∧w'.cell? ⟨(ad336.add ((x5_1).toNat * 7)).block,(ad336.add ((x5_1).toNat * 7)).off + 3,none⟩ = some (.slice A336_3 ((rd_T52 l1 x5_1).f0.f3).length c336_3)∧w'.cell? ⟨(ad336.add ((x5_1).toNat * 7)).block,(ad336.add ((x5_1).toNat * 7)).off + 4,none⟩ = some (.slice A336_4 ((rd_T52 l1 x5_1).f0.f4).length c336_4)∧w'.cell? ⟨(ad336.add ((x5_1).toNat * 7)).block,(ad336.add ((x5_1).toNat * 7)).off + 5,none⟩ = some (.slice A336_5 ((rd_T52 l1 x5_1).f0.f5).length c336_5)∧w'.cell? ⟨(ad336.add ((x5_1).toNat * 7)).block,(ad336.add ((x5_1).toNat * 7)).off + 6,none⟩ = some (.string ((rd_T52 l1 x5_1).f1))) (ds:=[]) #[false,false,false,false,false,false,false,false,false,false,false,false,false,false,false,false,false,false,false,false,false,false,false,false,false] kr_ rfl rfl ⟨((HB.out.cell (World.block_lt_of_cell? w _ hw335_0)).trans hw335_0),((HB.out.cell (World.block_lt_of_cell? w _ hw335_1)).trans hw335_1),((HB.out.cell (World.block_lt_of_cell? w _ hw335_2)).trans hw335_2),((HB.out.cell (World.block_lt_of_cell? w _ hw335_3)).trans hw335_3),((HB.out.cell (World.block_lt_of_cell? w _ hw335_4)).trans hw335_4),((HB.out.cell (World.block_lt_of_cell? w _ hw335_5)).trans hw335_5),((HB.out.cell (World.block_lt_of_cell? w _ hw335_6)).trans hw335_6),((HB.out.cell (World.block_lt_of_cell? w _ hw336_0)).trans hw336_0),((HB.out.cell (World.block_lt_of_cell? w _ hw336_1)).trans hw336_1),((HB.out.cell (World.block_lt_of_cell? w _ hw336_2)).trans hw336_2),((HB.out.cell (World.block_lt_of_cell? w _ hw336_3)).trans hw336_3),((HB.out.cell (World.block_lt_of_cell? w _ hw336_4)).trans hw336_4),((HB.out.cell (World.block_lt_of_cell? w _ hw336_5)).trans hw336_5),((HB.out.cell (World.block_lt_of_cell? w _ hw336_6)).trans hw336_6),((HB.out.cell (World.block_lt_of_cell? w _ hw337_0)).trans hw337_0),((HB.out.cell (World.block_lt_of_cell? w _ hw337_1)).trans hw337_1),((HB.out.cell (World.block_lt_of_cell? w _ hw337_2)).trans hw337_2),((HB.out.cell (World.block_lt_of_cell? w _ hw337_3)).trans hw337_3),((HB.out.cell (World.block_lt_of_cell? w _ hw337_4)).trans hw337_4),((HB.out.cell (World.block_lt_of_cell? w _ hw337_5)).trans hw337_5),((HB.out.cell (World.block_lt_of_cell? w _ hw337_6)).trans hw337_6),((HB.out.cell (World.block_lt_of_cell? w _ hw338_0)).trans hw338_0),((HB.out.cell (World.block_lt_of_cell? w _ hw338_1)).trans hw338_1),((HB.out.cell (World.block_lt_of_cell? w _ hw338_2)).trans hw338_2),((HB.out.cell (World.block_lt_of_cell? w _ hw338_3)).trans hw338_3),((HB.out.cell (World.block_lt_of_cell? w _ hw338_4)).trans hw338_4),((HB.out.cell (World.block_lt_of_cell? w _ hw338_5)).trans hw338_5),((HB.out.cell (World.block_lt_of_cell? w _ hw338_6)).trans hw338_6)⟩ (fun hHeld=>?_);refine with_tabW garboardref57_Same.tab6 garboardref57_Same.bits6 (fun HT_ HW_=>?_)
         generalize wr.drew = w10 at HB HR335_3 HR335_4 HR335_5 HR336_3 HR336_4 HR336_5 HR337_3 HR337_4 HR337_5 HR338_3 HR338_4 HR338_5 hx335_0 hx335_1 hx335_2 hx335_3 hx335_4 hx335_5 hx335_6 hx336_0 hx336_1 hx336_2 hx336_3 hx336_4 hx336_5 hx336_6 hx337_0 hx337_1 hx337_2 hx337_3 hx337_4 hx337_5 hx337_6 hx338_0 hx338_1 hx338_2 hx338_3 hx338_4 hx338_5 hx338_6 hHeld ⊢
         refine pu_ 0 (some 17) #[true,false,false,false,false,false,false,false,false,false,false,false,false,false,false,false,false,false,false,false,false,false,false,false,false] ?_
         refine pu_ 1 (some 18) #[true,true,false,false,false,false,false,false,false,false,false,false,false,false,false,false,false,false,false,false,false,false,false,false,false] ?_
         refine pu_ 2 (some 19) #[true,true,true,false,false,false,false,false,false,false,false,false,false,false,false,false,false,false,false,false,false,false,false,false,false] ?_
         refine pu_ 3 (some 20) #[true,true,true,true,false,false,false,false,false,false,false,false,false,false,false,false,false,false,false,false,false,false,false,false,false] ?_
         refine pu_ 5 (some 22) #[true,true,true,true,false,true,false,false,false,false,false,false,false,false,false,false,false,false,false,false,false,false,false,false,false] ?_
         refine pu_ 6 (some 23) #[true,true,true,true,false,true,true,false,false,false,false,false,false,false,false,false,false,false,false,false,false,false,false,false,false] ?_
         refine pu_ 7 (some 24) #[true,true,true,true,false,true,true,true,false,false,false,false,false,false,false,false,false,false,false,false,false,false,false,false,false] ?_
         refine pu_ 8 (some 25) #[true,true,true,true,false,true,true,true,true,false,false,false,false,false,false,false,false,false,false,false,false,false,false,false,false] ?_
         refine tk_ 4 (some 21) #[true,true,true,true,true,true,true,true,true,false,false,false,false,false,false,false,false,false,false,false,false,false,false,false,false] hHeld ?_
         refine tk_ 9 (some 26) #[true,true,true,true,true,true,true,true,true,true,false,false,false,false,false,false,false,false,false,false,false,false,false,false,false] hHeld ?_
         refine pu_ 10 (some 27) #[true,true,true,true,true,true,true,true,true,true,true,false,false,false,false,false,false,false,false,false,false,false,false,false,false] ?_
         refine pu_ 11 (some 28) #[true,true,true,true,true,true,true,true,true,true,true,true,false,false,false,false,false,false,false,false,false,false,false,false,false] ?_
         refine pu_ 12 (some 29) #[true,true,true,true,true,true,true,true,true,true,true,true,true,false,false,false,false,false,false,false,false,false,false,false,false] ?_
         refine pu_ 13 (some 30) #[true,true,true,true,true,true,true,true,true,true,true,true,true,true,false,false,false,false,false,false,false,false,false,false,false] ?_
         refine pu_ 14 (some 31) #[true,true,true,true,true,true,true,true,true,true,true,true,true,true,true,false,false,false,false,false,false,false,false,false,false] ?_
         refine pu_ 15 (some 32) #[true,true,true,true,true,true,true,true,true,true,true,true,true,true,true,true,false,false,false,false,false,false,false,false,false] ?_
         refine pu_ 17 (some 34) #[true,true,true,true,true,true,true,true,true,true,true,true,true,true,true,true,false,true,false,false,false,false,false,false,false] ?_
         refine pu_ 18 (some 35) #[true,true,true,true,true,true,true,true,true,true,true,true,true,true,true,true,false,true,true,false,false,false,false,false,false] ?_
         refine pu_ 19 (some 36) #[true,true,true,true,true,true,true,true,true,true,true,true,true,true,true,true,false,true,true,true,false,false,false,false,false] ?_
         refine pu_ 20 (some 37) #[true,true,true,true,true,true,true,true,true,true,true,true,true,true,true,true,false,true,true,true,true,false,false,false,false] ?_
         refine tk_ 16 (some 33) #[true,true,true,true,true,true,true,true,true,true,true,true,true,true,true,true,true,true,true,true,true,false,false,false,false] hHeld ?_
         refine tk_ 21 (some 38) #[true,true,true,true,true,true,true,true,true,true,true,true,true,true,true,true,true,true,true,true,true,true,false,false,false] hHeld ?_
         refine oc_ 22 (some 39) #[true,true,true,true,true,true,true,true,true,true,true,true,true,true,true,true,true,true,true,true,true,true,true,false,false] Tryz.func17 #[.agg #[.int .i64 ((rd_T52 l0 x5_1).f0.f0),.int .i64 ((rd_T52 l0 x5_1).f0.f1),.int .i64 ((rd_T52 l0 x5_1).f0.f2),.slice A335_3 ((rd_T52 l0 x5_1).f0.f3).length c335_3,.slice A335_4 ((rd_T52 l0 x5_1).f0.f4).length c335_4,.slice A335_5 ((rd_T52 l0 x5_1).f0.f5).length c335_5],.agg #[.int .i64 ((rd_T52 l1 x5_1).f0.f0),.int .i64 ((rd_T52 l1 x5_1).f0.f1),.int .i64 ((rd_T52 l1 x5_1).f0.f2),.slice A336_3 ((rd_T52 l1 x5_1).f0.f3).length c336_3,.slice A336_4 ((rd_T52 l1 x5_1).f0.f4).length c336_4,.slice A336_5 ((rd_T52 l1 x5_1).f0.f5).length c336_5]] (fun K hK=>?_)
         with_reducible refine (garboardref57_SameEvent.calls k1 ((rd_T52 l0 x5_1).f0.f0) ((rd_T52 l0 x5_1).f0.f1) ((rd_T52 l0 x5_1).f0.f2) _ _ ((rd_T52 l0 x5_1).f0.f3) _ _ ((rd_T52 l0 x5_1).f0.f4) _ _ ((rd_T52 l0 x5_1).f0.f5) ((rd_T52 l1 x5_1).f0.f0) ((rd_T52 l1 x5_1).f0.f1) ((rd_T52 l1 x5_1).f0.f2) _ _ ((rd_T52 l1 x5_1).f0.f3) _ _ ((rd_T52 l1 x5_1).f0.f4) _ _ ((rd_T52 l1 x5_1).f0.f5) true _ ?side1 ?side2 ?side3 ?side4 ?side5 ?side6 ?side7 ?side8 ?side9 ?side10 ?side11 ?side12 A8.out).mono ?_
         (case side1=>exact cx_ (Kd.C_below HR337_3.out HB.out))
         (case side2=>exact HC337_3.out)
         (case side3=>exact cx_ (Kd.C_below HR337_4.out HB.out))
         (case side4=>exact HC337_4.out)
         (case side5=>exact cx_ (Kd.C_below HR337_5.out HB.out))
         (case side6=>exact HC337_5.out)
         (case side7=>exact cx_ (Kd.C_below HR338_3.out HB.out))
         (case side8=>exact HC338_3.out)
         (case side9=>exact cx_ (Kd.C_below HR338_4.out HB.out))
         (case side10=>exact HC338_4.out)
         (case side11=>exact cx_ (Kd.C_below HR338_5.out HB.out))
         (case side12=>exact HC338_5.out)
         rintro e w11 ⟨rfl,hb⟩
         refine ⟨_,rfl,?_⟩
         replace HB:=bs_ hb
         (try clear hb)
         refine hK.out _ _ ⟨((HB.out.cell (World.block_lt_of_cell? w _ hw335_0)).trans hw335_0),((HB.out.cell (World.block_lt_of_cell? w _ hw335_1)).trans hw335_1),((HB.out.cell (World.block_lt_of_cell? w _ hw335_2)).trans hw335_2),((HB.out.cell (World.block_lt_of_cell? w _ hw335_3)).trans hw335_3),((HB.out.cell (World.block_lt_of_cell? w _ hw335_4)).trans hw335_4),((HB.out.cell (World.block_lt_of_cell? w _ hw335_5)).trans hw335_5),((HB.out.cell (World.block_lt_of_cell? w _ hw335_6)).trans hw335_6),((HB.out.cell (World.block_lt_of_cell? w _ hw336_0)).trans hw336_0),((HB.out.cell (World.block_lt_of_cell? w _ hw336_1)).trans hw336_1),((HB.out.cell (World.block_lt_of_cell? w _ hw336_2)).trans hw336_2),((HB.out.cell (World.block_lt_of_cell? w _ hw336_3)).trans hw336_3),((HB.out.cell (World.block_lt_of_cell? w _ hw336_4)).trans hw336_4),((HB.out.cell (World.block_lt_of_cell? w _ hw336_5)).trans hw336_5),((HB.out.cell (World.block_lt_of_cell? w _ hw336_6)).trans hw336_6),((HB.out.cell (World.block_lt_of_cell? w _ hw337_0)).trans hw337_0),((HB.out.cell (World.block_lt_of_cell? w _ hw337_1)).trans hw337_1),((HB.out.cell (World.block_lt_of_cell? w _ hw337_2)).trans hw337_2),((HB.out.cell (World.block_lt_of_cell? w _ hw337_3)).trans hw337_3),((HB.out.cell (World.block_lt_of_cell? w _ hw337_4)).trans hw337_4),((HB.out.cell (World.block_lt_of_cell? w _ hw337_5)).trans hw337_5),((HB.out.cell (World.block_lt_of_cell? w _ hw337_6)).trans hw337_6),((HB.out.cell (World.block_lt_of_cell? w _ hw338_0)).trans hw338_0),((HB.out.cell (World.block_lt_of_cell? w _ hw338_1)).trans hw338_1),((HB.out.cell (World.block_lt_of_cell? w _ hw338_2)).trans hw338_2),((HB.out.cell (World.block_lt_of_cell? w _ hw338_3)).trans hw338_3),((HB.out.cell (World.block_lt_of_cell? w _ hw338_4)).trans hw338_4),((HB.out.cell (World.block_lt_of_cell? w _ hw338_5)).trans hw338_5),((HB.out.cell (World.block_lt_of_cell? w _ hw338_6)).trans hw338_6)⟩ (fun hHeld=>?_)
         clear hK K
         refine norm_ (a':=?_) ?_ ?_
         rotate_left
         ·show Act.put _ (some 39) _ = _
          simp only [Act.put,List.setIfInBounds_toArray,List.set_cons_zero,List.set_cons_succ,i64_w,i32_w]
          rfl
         refine pu_ 23 (some 40) #[true,true,true,true,true,true,true,true,true,true,true,true,true,true,true,true,true,true,true,true,true,true,true,true,false] ?_
         refine pu_ 24 (some 41) #[true,true,true,true,true,true,true,true,true,true,true,true,true,true,true,true,true,true,true,true,true,true,true,true,true] ?_
         refine done_ (done_of HT_.out kr_) ?_
         try go_wp2
         go_roundg k1
         case measure=>have:=HK1.out;omega
         case rel=>exact ⟨(wrap64 (x5_1 + 1)),rg_,H',⟨by have:=HK1.out;omega⟩,⟨bx_⟩⟩
        ·replace c9:=Bool.eq_false_iff.mpr c9
         subst c9
         have H1:(some false) = some r:=by rw [if_neg (show ¬ (false = true) by decide)] at H;exact H
         clear H
         have H:=H1
         clear H1
         obtain rfl:=Option.some.inj H
         try go_wp2
         replace HB:=db_ HB
         have p335:0≤(x5_1:Int):=da_
         have q335:x5_1 < (l0.length:Int):=da_
         obtain ⟨ad335,A335_3,c335_3,A335_4,c335_4,A335_5,c335_5,e335,hx335_0,hx335_1,hx335_2,hx335_3,hx335_4,hx335_5,hx335_6,hl335_3,hi335_3,hl335_4,hi335_4,hl335_5,hi335_5⟩:=at_T52 HR0.out x5_1 p335 q335
         have hw335_6:=hx335_6
         have hw335_5:=hx335_5
         have hw335_4:=hx335_4
         have hw335_3:=hx335_3
         have hw335_2:=hx335_2
         have hw335_1:=hx335_1
         have hw335_0:=hx335_0
         cases e335
         replace hx335_0:=(HB.out.cell (World.block_lt_of_cell? w _ hx335_0)).trans hx335_0
         replace hx335_1:=(HB.out.cell (World.block_lt_of_cell? w _ hx335_1)).trans hx335_1
         replace hx335_2:=(HB.out.cell (World.block_lt_of_cell? w _ hx335_2)).trans hx335_2
         replace hx335_3:=(HB.out.cell (World.block_lt_of_cell? w _ hx335_3)).trans hx335_3
         replace hx335_4:=(HB.out.cell (World.block_lt_of_cell? w _ hx335_4)).trans hx335_4
         replace hx335_5:=(HB.out.cell (World.block_lt_of_cell? w _ hx335_5)).trans hx335_5
         replace hx335_6:=(HB.out.cell (World.block_lt_of_cell? w _ hx335_6)).trans hx335_6
         have HR335_3:=Aside0.mk hi335_3
         have HC335_3:=Aside0.mk hl335_3
         clear hi335_3 hl335_3
         have HR335_4:=Aside0.mk hi335_4
         have HC335_4:=Aside0.mk hl335_4
         clear hi335_4 hl335_4
         have HR335_5:=Aside0.mk hi335_5
         have HC335_5:=Aside0.mk hl335_5
         clear hi335_5 hl335_5
         replace p335:=eq_true p335
         replace q335:=eq_true q335
         have p336:0≤(x5_1:Int):=da_
         have q336:x5_1 < (l1.length:Int):=da_
         obtain ⟨ad336,A336_3,c336_3,A336_4,c336_4,A336_5,c336_5,e336,hx336_0,hx336_1,hx336_2,hx336_3,hx336_4,hx336_5,hx336_6,hl336_3,hi336_3,hl336_4,hi336_4,hl336_5,hi336_5⟩:=at_T52 HR1.out x5_1 p336 q336
         have hw336_6:=hx336_6
         have hw336_5:=hx336_5
         have hw336_4:=hx336_4
         have hw336_3:=hx336_3
         have hw336_2:=hx336_2
         have hw336_1:=hx336_1
         have hw336_0:=hx336_0
         cases e336
         replace hx336_0:=(HB.out.cell (World.block_lt_of_cell? w _ hx336_0)).trans hx336_0
         replace hx336_1:=(HB.out.cell (World.block_lt_of_cell? w _ hx336_1)).trans hx336_1
         replace hx336_2:=(HB.out.cell (World.block_lt_of_cell? w _ hx336_2)).trans hx336_2
         replace hx336_3:=(HB.out.cell (World.block_lt_of_cell? w _ hx336_3)).trans hx336_3
         replace hx336_4:=(HB.out.cell (World.block_lt_of_cell? w _ hx336_4)).trans hx336_4
         replace hx336_5:=(HB.out.cell (World.block_lt_of_cell? w _ hx336_5)).trans hx336_5
         replace hx336_6:=(HB.out.cell (World.block_lt_of_cell? w _ hx336_6)).trans hx336_6
         have HR336_3:=Aside0.mk hi336_3
         have HC336_3:=Aside0.mk hl336_3
         clear hi336_3 hl336_3
         have HR336_4:=Aside0.mk hi336_4
         have HC336_4:=Aside0.mk hl336_4
         clear hi336_4 hl336_4
         have HR336_5:=Aside0.mk hi336_5
         have HC336_5:=Aside0.mk hl336_5
         clear hi336_5 hl336_5
         replace p336:=eq_true p336
         replace q336:=eq_true q336
         have p337:0≤(x5_1:Int):=da_
         have q337:x5_1 < (l0.length:Int):=da_
         obtain ⟨ad337,A337_3,c337_3,A337_4,c337_4,A337_5,c337_5,e337,hx337_0,hx337_1,hx337_2,hx337_3,hx337_4,hx337_5,hx337_6,hl337_3,hi337_3,hl337_4,hi337_4,hl337_5,hi337_5⟩:=at_T52 HR0.out x5_1 p337 q337
         have hw337_6:=hx337_6
         have hw337_5:=hx337_5
         have hw337_4:=hx337_4
         have hw337_3:=hx337_3
         have hw337_2:=hx337_2
         have hw337_1:=hx337_1
         have hw337_0:=hx337_0
         obtain rfl:ad335 = ad337:=(by injection e337)
         replace hx337_0:=(HB.out.cell (World.block_lt_of_cell? w _ hx337_0)).trans hx337_0
         replace hx337_1:=(HB.out.cell (World.block_lt_of_cell? w _ hx337_1)).trans hx337_1
         replace hx337_2:=(HB.out.cell (World.block_lt_of_cell? w _ hx337_2)).trans hx337_2
         replace hx337_3:=(HB.out.cell (World.block_lt_of_cell? w _ hx337_3)).trans hx337_3
         replace hx337_4:=(HB.out.cell (World.block_lt_of_cell? w _ hx337_4)).trans hx337_4
         replace hx337_5:=(HB.out.cell (World.block_lt_of_cell? w _ hx337_5)).trans hx337_5
         replace hx337_6:=(HB.out.cell (World.block_lt_of_cell? w _ hx337_6)).trans hx337_6
         have HR337_3:=Aside0.mk hi337_3
         have HC337_3:=Aside0.mk hl337_3
         clear hi337_3 hl337_3
         have HR337_4:=Aside0.mk hi337_4
         have HC337_4:=Aside0.mk hl337_4
         clear hi337_4 hl337_4
         have HR337_5:=Aside0.mk hi337_5
         have HC337_5:=Aside0.mk hl337_5
         clear hi337_5 hl337_5
         replace p337:=eq_true p337
         replace q337:=eq_true q337
         have ea_:=Option.some.inj (hx335_3.symm.trans hx337_3)
         injection ea_ with ea_ en_ ec_
         subst ea_
         subst ec_
         clear en_
         have ea_:=Option.some.inj (hx335_4.symm.trans hx337_4)
         injection ea_ with ea_ en_ ec_
         subst ea_
         subst ec_
         clear en_
         have ea_:=Option.some.inj (hx335_5.symm.trans hx337_5)
         injection ea_ with ea_ en_ ec_
         subst ea_
         subst ec_
         clear en_
         have p338:0≤(x5_1:Int):=da_
         have q338:x5_1 < (l1.length:Int):=da_
         obtain ⟨ad338,A338_3,c338_3,A338_4,c338_4,A338_5,c338_5,e338,hx338_0,hx338_1,hx338_2,hx338_3,hx338_4,hx338_5,hx338_6,hl338_3,hi338_3,hl338_4,hi338_4,hl338_5,hi338_5⟩:=at_T52 HR1.out x5_1 p338 q338
         have hw338_6:=hx338_6
         have hw338_5:=hx338_5
         have hw338_4:=hx338_4
         have hw338_3:=hx338_3
         have hw338_2:=hx338_2
         have hw338_1:=hx338_1
         have hw338_0:=hx338_0
         obtain rfl:ad336 = ad338:=(by injection e338)
         replace hx338_0:=(HB.out.cell (World.block_lt_of_cell? w _ hx338_0)).trans hx338_0
         replace hx338_1:=(HB.out.cell (World.block_lt_of_cell? w _ hx338_1)).trans hx338_1
         replace hx338_2:=(HB.out.cell (World.block_lt_of_cell? w _ hx338_2)).trans hx338_2
         replace hx338_3:=(HB.out.cell (World.block_lt_of_cell? w _ hx338_3)).trans hx338_3
         replace hx338_4:=(HB.out.cell (World.block_lt_of_cell? w _ hx338_4)).trans hx338_4
         replace hx338_5:=(HB.out.cell (World.block_lt_of_cell? w _ hx338_5)).trans hx338_5
         replace hx338_6:=(HB.out.cell (World.block_lt_of_cell? w _ hx338_6)).trans hx338_6
         have HR338_3:=Aside0.mk hi338_3
         have HC338_3:=Aside0.mk hl338_3
         clear hi338_3 hl338_3
         have HR338_4:=Aside0.mk hi338_4
         have HC338_4:=Aside0.mk hl338_4
         clear hi338_4 hl338_4
         have HR338_5:=Aside0.mk hi338_5
         have HC338_5:=Aside0.mk hl338_5
         clear hi338_5 hl338_5
         replace p338:=eq_true p338
         replace q338:=eq_true q338
         have ea_:=Option.some.inj (hx336_3.symm.trans hx338_3)
         injection ea_ with ea_ en_ ec_
         subst ea_
         subst ec_
         clear en_
         have ea_:=Option.some.inj (hx336_4.symm.trans hx338_4)
         injection ea_ with ea_ en_ ec_
         subst ea_
         subst ec_
         clear en_
         have ea_:=Option.some.inj (hx336_5.symm.trans hx338_5)
         injection ea_ with ea_ en_ ec_
         subst ea_
         subst ec_
         clear en_
         refine start_ (n:=25) (S:=fun w'=>w'.cell? (ad335.add ((x5_1).toNat * 7)) = some (.int .i64 ((rd_T52 l0 x5_1).f0.f0))∧w'.cell? ⟨(ad335.add ((x5_1).toNat * 7)).block,(ad335.add ((x5_1).toNat * 7)).off + 1,none⟩ = some (.int .i64 ((rd_T52 l0 x5_1).f0.f1))∧w'.cell? ⟨(ad335.add ((x5_1).toNat * 7)).block,(ad335.add ((x5_1).toNat * 7)).off + 2,none⟩ = some (.int .i64 ((rd_T52 l0 x5_1).f0.f2))∧w'.cell? ⟨(ad335.add ((x5_1).toNat * 7)).block,(ad335.add ((x5_1).toNat * 7)).off + 3,none⟩ = some (.slice A335_3 ((rd_T52 l0 x5_1).f0.f3).length c335_3)∧w'.cell? ⟨(ad335.add ((x5_1).toNat * 7)).block,(ad335.add ((x5_1).toNat * 7)).off + 4,none⟩ = some (.slice A335_4 ((rd_T52 l0 x5_1).f0.f4).length c335_4)∧w'.cell? ⟨(ad335.add ((x5_1).toNat * 7)).block,(ad335.add ((x5_1).toNat * 7)).off + 5,none⟩ = some (.slice A335_5 ((rd_T52 l0 x5_1).f0.f5).length c335_5)∧w'.cell? ⟨(ad335.add ((x5_1).toNat * 7)).block,(ad335.add ((x5_1).toNat * 7)).off + 6,none⟩ = some (.string ((rd_T52 l0 x5_1).f1))∧w'.cell? (ad336.add ((x5_1).toNat * 7)) = some (.int .i64 ((rd_T52 l1 x5_1).f0.f0))∧w'.cell? ⟨(ad336.add ((x5_1).toNat * 7)).block,(ad336.add ((x5_1).toNat * 7)).off + 1,none⟩ = some (.int .i64 ((rd_T52 l1 x5_1).f0.f1))∧w'.cell? ⟨(ad336.add ((x5_1).toNat * 7)).block,(ad336.add ((x5_1).toNat * 7)).off + 2,none⟩ = some (.int .i64 ((rd_T52 l1 x5_1).f0.f2))∧w'.cell? ⟨(ad336.add ((x5_1).toNat * 7)).block,(ad336.add ((x5_1).toNat * 7)).off + 3,none⟩ = some (.slice A336_3 ((rd_T52 l1 x5_1).f0.f3).length c336_3)∧w'.cell? ⟨(ad336.add ((x5_1).toNat * 7)).block,(ad336.add ((x5_1).toNat * 7)).off + 4,none⟩ = some (.slice A336_4 ((rd_T52 l1 x5_1).f0.f4).length c336_4)∧w'.cell? ⟨(ad336.add ((x5_1).toNat * 7)).block,(ad336.add ((x5_1).toNat * 7)).off + 5,none⟩ = some (.slice A336_5 ((rd_T52 l1 x5_1).f0.f5).length c336_5)∧w'.cell? ⟨(ad336.add ((x5_1).toNat * 7)).block,(ad336.add ((x5_1).toNat * 7)).off + 6,none⟩ = some (.string ((rd_T52 l1 x5_1).f1))∧w'.cell? (ad335.add ((x5_1).toNat * 7)) = some (.int .i64 ((rd_T52 l0 x5_1).f0.f0))∧w'.cell? ⟨(ad335.add ((x5_1).toNat * 7)).block,(ad335.add ((x5_1).toNat * 7)).off + 1,none⟩ = some (.int .i64 ((rd_T52 l0 x5_1).f0.f1))∧w'.cell? ⟨(ad335.add ((x5_1).toNat * 7)).block,(ad335.add ((x5_1).toNat * 7)).off + 2,none⟩ = some (.int .i64 ((rd_T52 l0 x5_1).f0.f2))∧w'.cell? ⟨(ad335.add ((x5_1).toNat * 7)).block,(ad335.add ((x5_1).toNat * 7)).off + 3,none⟩ = some (.slice A335_3 ((rd_T52 l0 x5_1).f0.f3).length c335_3)∧w'.cell? ⟨(ad335.add ((x5_1).toNat * 7)).block,(ad335.add ((x5_1).toNat * 7)).off + 4,none⟩ = some (.slice A335_4 ((rd_T52 l0 x5_1).f0.f4).length c335_4)∧w'.cell? ⟨(ad335.add ((x5_1).toNat * 7)).block,(ad335.add ((x5_1).toNat * 7)).off + 5,none⟩ = some (.slice A335_5 ((rd_T52 l0 x5_1).f0.f5).length c335_5)∧w'.cell? ⟨(ad335.add ((x5_1).toNat * 7)).block,(ad335.add ((x5_1).toNat * 7)).off + 6,none⟩ = some (.string ((rd_T52 l0 x5_1).f1))∧w'.cell? (ad336.add ((x5_1).toNat * 7)) = some (.int .i64 ((rd_T52 l1 x5_1).f0.f0))∧w'.cell? ⟨(ad336.add ((x5_1).toNat * 7)).block,(ad336.add ((x5_1).toNat * 7)).off + 1,none⟩ = some (.int .i64 ((rd_T52 l1 x5_1).f0.f1))∧w'.cell? ⟨(ad336.add ((x5_1).toNat * 7)).block,(ad336.add ((x5_1).toNat * 7)).off + 2,none⟩ = some (.int .i64 ((rd_T52 l1 x5_1).f0.f2))∧w'.cell? ⟨(ad336.add ((x5_1).toNat * 7)).block,(ad336.add ((x5_1).toNat * 7)).off + 3,none⟩ = some (.slice A336_3 ((rd_T52 l1 x5_1).f0.f3).length c336_3)∧w'.cell? ⟨(ad336.add ((x5_1).toNat * 7)).block,(ad336.add ((x5_1).toNat * 7)).off + 4,none⟩ = some (.slice A336_4 ((rd_T52 l1 x5_1).f0.f4).length c336_4)∧w'.cell? ⟨(ad336.add ((x5_1).toNat * 7)).block,(ad336.add ((x5_1).toNat * 7)).off + 5,none⟩ = some (.slice A336_5 ((rd_T52 l1 x5_1).f0.f5).length c336_5)∧w'.cell? ⟨(ad336.add ((x5_1).toNat * 7)).block,(ad336.add ((x5_1).toNat * 7)).off + 6,none⟩ = some (.string ((rd_T52 l1 x5_1).f1))) (ds:=[]) #[false,false,false,false,false,false,false,false,false,false,false,false,false,false,false,false,false,false,false,false,false,false,false,false,false] kr_ rfl rfl ⟨((HB.out.cell (World.block_lt_of_cell? w _ hw335_0)).trans hw335_0),((HB.out.cell (World.block_lt_of_cell? w _ hw335_1)).trans hw335_1),((HB.out.cell (World.block_lt_of_cell? w _ hw335_2)).trans hw335_2),((HB.out.cell (World.block_lt_of_cell? w _ hw335_3)).trans hw335_3),((HB.out.cell (World.block_lt_of_cell? w _ hw335_4)).trans hw335_4),((HB.out.cell (World.block_lt_of_cell? w _ hw335_5)).trans hw335_5),((HB.out.cell (World.block_lt_of_cell? w _ hw335_6)).trans hw335_6),((HB.out.cell (World.block_lt_of_cell? w _ hw336_0)).trans hw336_0),((HB.out.cell (World.block_lt_of_cell? w _ hw336_1)).trans hw336_1),((HB.out.cell (World.block_lt_of_cell? w _ hw336_2)).trans hw336_2),((HB.out.cell (World.block_lt_of_cell? w _ hw336_3)).trans hw336_3),((HB.out.cell (World.block_lt_of_cell? w _ hw336_4)).trans hw336_4),((HB.out.cell (World.block_lt_of_cell? w _ hw336_5)).trans hw336_5),((HB.out.cell (World.block_lt_of_cell? w _ hw336_6)).trans hw336_6),((HB.out.cell (World.block_lt_of_cell? w _ hw337_0)).trans hw337_0),((HB.out.cell (World.block_lt_of_cell? w _ hw337_1)).trans hw337_1),((HB.out.cell (World.block_lt_of_cell? w _ hw337_2)).trans hw337_2),((HB.out.cell (World.block_lt_of_cell? w _ hw337_3)).trans hw337_3),((HB.out.cell (World.block_lt_of_cell? w _ hw337_4)).trans hw337_4),((HB.out.cell (World.block_lt_of_cell? w _ hw337_5)).trans hw337_5),((HB.out.cell (World.block_lt_of_cell? w _ hw337_6)).trans hw337_6),((HB.out.cell (World.block_lt_of_cell? w _ hw338_0)).trans hw338_0),((HB.out.cell (World.block_lt_of_cell? w _ hw338_1)).trans hw338_1),((HB.out.cell (World.block_lt_of_cell? w _ hw338_2)).trans hw338_2),((HB.out.cell (World.block_lt_of_cell? w _ hw338_3)).trans hw338_3),((HB.out.cell (World.block_lt_of_cell? w _ hw338_4)).trans hw338_4),((HB.out.cell (World.block_lt_of_cell? w _ hw338_5)).trans hw338_5),((HB.out.cell (World.block_lt_of_cell? w _ hw338_6)).trans hw338_6)⟩ (fun hHeld=>?_);refine with_tabW garboardref57_Same.tab6 garboardref57_Same.bits6 (fun HT_ HW_=>?_)
         generalize wr.drew = w12 at HB HR335_3 HR335_4 HR335_5 HR336_3 HR336_4 HR336_5 HR337_3 HR337_4 HR337_5 HR338_3 HR338_4 HR338_5 hx335_0 hx335_1 hx335_2 hx335_3 hx335_4 hx335_5 hx335_6 hx336_0 hx336_1 hx336_2 hx336_3 hx336_4 hx336_5 hx336_6 hx337_0 hx337_1 hx337_2 hx337_3 hx337_4 hx337_5 hx337_6 hx338_0 hx338_1 hx338_2 hx338_3 hx338_4 hx338_5 hx338_6 hHeld ⊢
         refine pu_ 0 (some 17) #[true,false,false,false,false,false,false,false,false,false,false,false,false,false,false,false,false,false,false,false,false,false,false,false,false] ?_
         refine pu_ 1 (some 18) #[true,true,false,false,false,false,false,false,false,false,false,false,false,false,false,false,false,false,false,false,false,false,false,false,false] ?_
         refine pu_ 2 (some 19) #[true,true,true,false,false,false,false,false,false,false,false,false,false,false,false,false,false,false,false,false,false,false,false,false,false] ?_
         refine pu_ 3 (some 20) #[true,true,true,true,false,false,false,false,false,false,false,false,false,false,false,false,false,false,false,false,false,false,false,false,false] ?_
         refine pu_ 5 (some 22) #[true,true,true,true,false,true,false,false,false,false,false,false,false,false,false,false,false,false,false,false,false,false,false,false,false] ?_
         refine pu_ 6 (some 23) #[true,true,true,true,false,true,true,false,false,false,false,false,false,false,false,false,false,false,false,false,false,false,false,false,false] ?_
         refine pu_ 7 (some 24) #[true,true,true,true,false,true,true,true,false,false,false,false,false,false,false,false,false,false,false,false,false,false,false,false,false] ?_
         refine pu_ 8 (some 25) #[true,true,true,true,false,true,true,true,true,false,false,false,false,false,false,false,false,false,false,false,false,false,false,false,false] ?_
         refine tk_ 4 (some 21) #[true,true,true,true,true,true,true,true,true,false,false,false,false,false,false,false,false,false,false,false,false,false,false,false,false] hHeld ?_
         refine tk_ 9 (some 26) #[true,true,true,true,true,true,true,true,true,true,false,false,false,false,false,false,false,false,false,false,false,false,false,false,false] hHeld ?_
         refine pu_ 10 (some 27) #[true,true,true,true,true,true,true,true,true,true,true,false,false,false,false,false,false,false,false,false,false,false,false,false,false] ?_
         refine pu_ 11 (some 28) #[true,true,true,true,true,true,true,true,true,true,true,true,false,false,false,false,false,false,false,false,false,false,false,false,false] ?_
         refine pu_ 12 (some 29) #[true,true,true,true,true,true,true,true,true,true,true,true,true,false,false,false,false,false,false,false,false,false,false,false,false] ?_
         refine pu_ 13 (some 30) #[true,true,true,true,true,true,true,true,true,true,true,true,true,true,false,false,false,false,false,false,false,false,false,false,false] ?_
         refine pu_ 14 (some 31) #[true,true,true,true,true,true,true,true,true,true,true,true,true,true,true,false,false,false,false,false,false,false,false,false,false] ?_
         refine pu_ 15 (some 32) #[true,true,true,true,true,true,true,true,true,true,true,true,true,true,true,true,false,false,false,false,false,false,false,false,false] ?_
         refine pu_ 17 (some 34) #[true,true,true,true,true,true,true,true,true,true,true,true,true,true,true,true,false,true,false,false,false,false,false,false,false] ?_
         refine pu_ 18 (some 35) #[true,true,true,true,true,true,true,true,true,true,true,true,true,true,true,true,false,true,true,false,false,false,false,false,false] ?_
         refine pu_ 19 (some 36) #[true,true,true,true,true,true,true,true,true,true,true,true,true,true,true,true,false,true,true,true,false,false,false,false,false] ?_
         refine pu_ 20 (some 37) #[true,true,true,true,true,true,true,true,true,true,true,true,true,true,true,true,false,true,true,true,true,false,false,false,false] ?_
         refine tk_ 16 (some 33) #[true,true,true,true,true,true,true,true,true,true,true,true,true,true,true,true,true,true,true,true,true,false,false,false,false] hHeld ?_
         refine tk_ 21 (some 38) #[true,true,true,true,true,true,true,true,true,true,true,true,true,true,true,true,true,true,true,true,true,true,false,false,false] hHeld ?_
         refine oc_ 22 (some 39) #[true,true,true,true,true,true,true,true,true,true,true,true,true,true,true,true,true,true,true,true,true,true,true,false,false] Tryz.func17 #[.agg #[.int .i64 ((rd_T52 l0 x5_1).f0.f0),.int .i64 ((rd_T52 l0 x5_1).f0.f1),.int .i64 ((rd_T52 l0 x5_1).f0.f2),.slice A335_3 ((rd_T52 l0 x5_1).f0.f3).length c335_3,.slice A335_4 ((rd_T52 l0 x5_1).f0.f4).length c335_4,.slice A335_5 ((rd_T52 l0 x5_1).f0.f5).length c335_5],.agg #[.int .i64 ((rd_T52 l1 x5_1).f0.f0),.int .i64 ((rd_T52 l1 x5_1).f0.f1),.int .i64 ((rd_T52 l1 x5_1).f0.f2),.slice A336_3 ((rd_T52 l1 x5_1).f0.f3).length c336_3,.slice A336_4 ((rd_T52 l1 x5_1).f0.f4).length c336_4,.slice A336_5 ((rd_T52 l1 x5_1).f0.f5).length c336_5]] (fun K hK=>?_)
         with_reducible refine (garboardref57_SameEvent.calls k1 ((rd_T52 l0 x5_1).f0.f0) ((rd_T52 l0 x5_1).f0.f1) ((rd_T52 l0 x5_1).f0.f2) _ _ ((rd_T52 l0 x5_1).f0.f3) _ _ ((rd_T52 l0 x5_1).f0.f4) _ _ ((rd_T52 l0 x5_1).f0.f5) ((rd_T52 l1 x5_1).f0.f0) ((rd_T52 l1 x5_1).f0.f1) ((rd_T52 l1 x5_1).f0.f2) _ _ ((rd_T52 l1 x5_1).f0.f3) _ _ ((rd_T52 l1 x5_1).f0.f4) _ _ ((rd_T52 l1 x5_1).f0.f5) false _ ?side1 ?side2 ?side3 ?side4 ?side5 ?side6 ?side7 ?side8 ?side9 ?side10 ?side11 ?side12 A8.out).mono ?_
         (case side1=>exact cx_ (Kd.C_below HR337_3.out HB.out))
         (case side2=>exact HC337_3.out)
         (case side3=>exact cx_ (Kd.C_below HR337_4.out HB.out))
         (case side4=>exact HC337_4.out)
         (case side5=>exact cx_ (Kd.C_below HR337_5.out HB.out))
         (case side6=>exact HC337_5.out)
         (case side7=>exact cx_ (Kd.C_below HR338_3.out HB.out))
         (case side8=>exact HC338_3.out)
         (case side9=>exact cx_ (Kd.C_below HR338_4.out HB.out))
         (case side10=>exact HC338_4.out)
         (case side11=>exact cx_ (Kd.C_below HR338_5.out HB.out))
         (case side12=>exact HC338_5.out)
         rintro e w13 ⟨rfl,hb⟩
         refine ⟨_,rfl,?_⟩
         replace HB:=bs_ hb
         (try clear hb)
         refine hK.out _ _ ⟨((HB.out.cell (World.block_lt_of_cell? w _ hw335_0)).trans hw335_0),((HB.out.cell (World.block_lt_of_cell? w _ hw335_1)).trans hw335_1),((HB.out.cell (World.block_lt_of_cell? w _ hw335_2)).trans hw335_2),((HB.out.cell (World.block_lt_of_cell? w _ hw335_3)).trans hw335_3),((HB.out.cell (World.block_lt_of_cell? w _ hw335_4)).trans hw335_4),((HB.out.cell (World.block_lt_of_cell? w _ hw335_5)).trans hw335_5),((HB.out.cell (World.block_lt_of_cell? w _ hw335_6)).trans hw335_6),((HB.out.cell (World.block_lt_of_cell? w _ hw336_0)).trans hw336_0),((HB.out.cell (World.block_lt_of_cell? w _ hw336_1)).trans hw336_1),((HB.out.cell (World.block_lt_of_cell? w _ hw336_2)).trans hw336_2),((HB.out.cell (World.block_lt_of_cell? w _ hw336_3)).trans hw336_3),((HB.out.cell (World.block_lt_of_cell? w _ hw336_4)).trans hw336_4),((HB.out.cell (World.block_lt_of_cell? w _ hw336_5)).trans hw336_5),((HB.out.cell (World.block_lt_of_cell? w _ hw336_6)).trans hw336_6),((HB.out.cell (World.block_lt_of_cell? w _ hw337_0)).trans hw337_0),((HB.out.cell (World.block_lt_of_cell? w _ hw337_1)).trans hw337_1),((HB.out.cell (World.block_lt_of_cell? w _ hw337_2)).trans hw337_2),((HB.out.cell (World.block_lt_of_cell? w _ hw337_3)).trans hw337_3),((HB.out.cell (World.block_lt_of_cell? w _ hw337_4)).trans hw337_4),((HB.out.cell (World.block_lt_of_cell? w _ hw337_5)).trans hw337_5),((HB.out.cell (World.block_lt_of_cell? w _ hw337_6)).trans hw337_6),((HB.out.cell (World.block_lt_of_cell? w _ hw338_0)).trans hw338_0),((HB.out.cell (World.block_lt_of_cell? w _ hw338_1)).trans hw338_1),((HB.out.cell (World.block_lt_of_cell? w _ hw338_2)).trans hw338_2),((HB.out.cell (World.block_lt_of_cell? w _ hw338_3)).trans hw338_3),((HB.out.cell (World.block_lt_of_cell? w _ hw338_4)).trans hw338_4),((HB.out.cell (World.block_lt_of_cell? w _ hw338_5)).trans hw338_5),((HB.out.cell (World.block_lt_of_cell? w _ hw338_6)).trans hw338_6)⟩ (fun hHeld=>?_)
         clear hK K
         refine norm_ (a':=?_) ?_ ?_
         rotate_left
         ·show Act.put _ (some 39) _ = _
          simp only [Act.put,List.setIfInBounds_toArray,List.set_cons_zero,List.set_cons_succ,i64_w,i32_w]
          rfl
         refine pu_ 23 (some 40) #[true,true,true,true,true,true,true,true,true,true,true,true,true,true,true,true,true,true,true,true,true,true,true,true,false] ?_
         refine pu_ 24 (some 41) #[true,true,true,true,true,true,true,true,true,true,true,true,true,true,true,true,true,true,true,true,true,true,true,true,true] ?_
         refine done_ (done_of HT_.out kr_) ?_
         try go_wp2
         go_ret
         exact ⟨rf_,bx_⟩
       ·rw [if_neg c7] at H
        have c7b0:(((rd_T52 l0 x5_1).f1).toList == ((rd_T52 l1 x5_1).f1).toList) = false:=beq_eq_false_iff_ne.mpr c7
        have c7b1:(((rd_T52 l0 x5_1).f1).toList != ((rd_T52 l1 x5_1).f1).toList) = true:=bne_iff_ne.mpr c7
        obtain rfl:=Option.some.inj H
        try go_wp2
        replace HB:=db_ HB
        have p335:0≤(x5_1:Int):=da_
        have q335:x5_1 < (l0.length:Int):=da_
        obtain ⟨ad335,A335_3,c335_3,A335_4,c335_4,A335_5,c335_5,e335,hx335_0,hx335_1,hx335_2,hx335_3,hx335_4,hx335_5,hx335_6,hl335_3,hi335_3,hl335_4,hi335_4,hl335_5,hi335_5⟩:=at_T52 HR0.out x5_1 p335 q335
        have hw335_6:=hx335_6
        have hw335_5:=hx335_5
        have hw335_4:=hx335_4
        have hw335_3:=hx335_3
        have hw335_2:=hx335_2
        have hw335_1:=hx335_1
        have hw335_0:=hx335_0
        cases e335
        replace hx335_0:=(HB.out.cell (World.block_lt_of_cell? w _ hx335_0)).trans hx335_0
        replace hx335_1:=(HB.out.cell (World.block_lt_of_cell? w _ hx335_1)).trans hx335_1
        replace hx335_2:=(HB.out.cell (World.block_lt_of_cell? w _ hx335_2)).trans hx335_2
        replace hx335_3:=(HB.out.cell (World.block_lt_of_cell? w _ hx335_3)).trans hx335_3
        replace hx335_4:=(HB.out.cell (World.block_lt_of_cell? w _ hx335_4)).trans hx335_4
        replace hx335_5:=(HB.out.cell (World.block_lt_of_cell? w _ hx335_5)).trans hx335_5
        replace hx335_6:=(HB.out.cell (World.block_lt_of_cell? w _ hx335_6)).trans hx335_6
        have HR335_3:=Aside0.mk hi335_3
        have HC335_3:=Aside0.mk hl335_3
        clear hi335_3 hl335_3
        have HR335_4:=Aside0.mk hi335_4
        have HC335_4:=Aside0.mk hl335_4
        clear hi335_4 hl335_4
        have HR335_5:=Aside0.mk hi335_5
        have HC335_5:=Aside0.mk hl335_5
        clear hi335_5 hl335_5
        replace p335:=eq_true p335
        replace q335:=eq_true q335
        have p336:0≤(x5_1:Int):=da_
        have q336:x5_1 < (l1.length:Int):=da_
        obtain ⟨ad336,A336_3,c336_3,A336_4,c336_4,A336_5,c336_5,e336,hx336_0,hx336_1,hx336_2,hx336_3,hx336_4,hx336_5,hx336_6,hl336_3,hi336_3,hl336_4,hi336_4,hl336_5,hi336_5⟩:=at_T52 HR1.out x5_1 p336 q336
        have hw336_6:=hx336_6
        have hw336_5:=hx336_5
        have hw336_4:=hx336_4
        have hw336_3:=hx336_3
        have hw336_2:=hx336_2
        have hw336_1:=hx336_1
        have hw336_0:=hx336_0
        cases e336
        replace hx336_0:=(HB.out.cell (World.block_lt_of_cell? w _ hx336_0)).trans hx336_0
        replace hx336_1:=(HB.out.cell (World.block_lt_of_cell? w _ hx336_1)).trans hx336_1
        replace hx336_2:=(HB.out.cell (World.block_lt_of_cell? w _ hx336_2)).trans hx336_2
        replace hx336_3:=(HB.out.cell (World.block_lt_of_cell? w _ hx336_3)).trans hx336_3
        replace hx336_4:=(HB.out.cell (World.block_lt_of_cell? w _ hx336_4)).trans hx336_4
        replace hx336_5:=(HB.out.cell (World.block_lt_of_cell? w _ hx336_5)).trans hx336_5
        replace hx336_6:=(HB.out.cell (World.block_lt_of_cell? w _ hx336_6)).trans hx336_6
        have HR336_3:=Aside0.mk hi336_3
        have HC336_3:=Aside0.mk hl336_3
        clear hi336_3 hl336_3
        have HR336_4:=Aside0.mk hi336_4
        have HC336_4:=Aside0.mk hl336_4
        clear hi336_4 hl336_4
        have HR336_5:=Aside0.mk hi336_5
        have HC336_5:=Aside0.mk hl336_5
        clear hi336_5 hl336_5
        replace p336:=eq_true p336
        replace q336:=eq_true q336
        refine start_ (n:=25) (S:=fun w'=>w'.cell? (ad335.add ((x5_1).toNat * 7)) = some (.int .i64 ((rd_T52 l0 x5_1).f0.f0))∧w'.cell? ⟨(ad335.add ((x5_1).toNat * 7)).block,(ad335.add ((x5_1).toNat * 7)).off + 1,none⟩ = some (.int .i64 ((rd_T52 l0 x5_1).f0.f1))∧w'.cell? ⟨(ad335.add ((x5_1).toNat * 7)).block,(ad335.add ((x5_1).toNat * 7)).off + 2,none⟩ = some (.int .i64 ((rd_T52 l0 x5_1).f0.f2))∧w'.cell? ⟨(ad335.add ((x5_1).toNat * 7)).block,(ad335.add ((x5_1).toNat * 7)).off + 3,none⟩ = some (.slice A335_3 ((rd_T52 l0 x5_1).f0.f3).length c335_3)∧w'.cell? ⟨(ad335.add ((x5_1).toNat * 7)).block,(ad335.add ((x5_1).toNat * 7)).off + 4,none⟩ = some (.slice A335_4 ((rd_T52 l0 x5_1).f0.f4).length c335_4)∧w'.cell? ⟨(ad335.add ((x5_1).toNat * 7)).block,(ad335.add ((x5_1).toNat * 7)).off + 5,none⟩ = some (.slice A335_5 ((rd_T52 l0 x5_1).f0.f5).length c335_5)∧w'.cell? ⟨(ad335.add ((x5_1).toNat * 7)).block,(ad335.add ((x5_1).toNat * 7)).off + 6,none⟩ = some (.string ((rd_T52 l0 x5_1).f1))∧w'.cell? (ad336.add ((x5_1).toNat * 7)) = some (.int .i64 ((rd_T52 l1 x5_1).f0.f0))∧w'.cell? ⟨(ad336.add ((x5_1).toNat * 7)).block,(ad336.add ((x5_1).toNat * 7)).off + 1,none⟩ = some (.int .i64 ((rd_T52 l1 x5_1).f0.f1))∧w'.cell? ⟨(ad336.add ((x5_1).toNat * 7)).block,(ad336.add ((x5_1).toNat * 7)).off + 2,none⟩ = some (.int .i64 ((rd_T52 l1 x5_1).f0.f2))∧w'.cell? ⟨(ad336.add ((x5_1).toNat * 7)).block,(ad336.add ((x5_1).toNat * 7)).off + 3,none⟩ = some (.slice A336_3 ((rd_T52 l1 x5_1).f0.f3).length c336_3)∧w'.cell? ⟨(ad336.add ((x5_1).toNat * 7)).block,(ad336.add ((x5_1).toNat * 7)).off + 4,none⟩ = some (.slice A336_4 ((rd_T52 l1 x5_1).f0.f4).length c336_4)∧w'.cell? ⟨(ad336.add ((x5_1).toNat * 7)).block,(ad336.add ((x5_1).toNat * 7)).off + 5,none⟩ = some (.slice A336_5 ((rd_T52 l1 x5_1).f0.f5).length c336_5)∧w'.cell? ⟨(ad336.add ((x5_1).toNat * 7)).block,(ad336.add ((x5_1).toNat * 7)).off + 6,none⟩ = some (.string ((rd_T52 l1 x5_1).f1))) (ds:=[]) #[false,false,false,false,false,false,false,false,false,false,false,false,false,false,false,false,false,false,false,false,false,false,false,false,false] kr_ rfl rfl ⟨((HB.out.cell (World.block_lt_of_cell? w _ hw335_0)).trans hw335_0),((HB.out.cell (World.block_lt_of_cell? w _ hw335_1)).trans hw335_1),((HB.out.cell (World.block_lt_of_cell? w _ hw335_2)).trans hw335_2),((HB.out.cell (World.block_lt_of_cell? w _ hw335_3)).trans hw335_3),((HB.out.cell (World.block_lt_of_cell? w _ hw335_4)).trans hw335_4),((HB.out.cell (World.block_lt_of_cell? w _ hw335_5)).trans hw335_5),((HB.out.cell (World.block_lt_of_cell? w _ hw335_6)).trans hw335_6),((HB.out.cell (World.block_lt_of_cell? w _ hw336_0)).trans hw336_0),((HB.out.cell (World.block_lt_of_cell? w _ hw336_1)).trans hw336_1),((HB.out.cell (World.block_lt_of_cell? w _ hw336_2)).trans hw336_2),((HB.out.cell (World.block_lt_of_cell? w _ hw336_3)).trans hw336_3),((HB.out.cell (World.block_lt_of_cell? w _ hw336_4)).trans hw336_4),((HB.out.cell (World.block_lt_of_cell? w _ hw336_5)).trans hw336_5),((HB.out.cell (World.block_lt_of_cell? w _ hw336_6)).trans hw336_6)⟩ (fun hHeld=>?_);refine with_tabW garboardref57_Same.tab6 garboardref57_Same.bits6 (fun HT_ HW_=>?_)
        generalize wr.drew = w14 at HB HR335_3 HR335_4 HR335_5 HR336_3 HR336_4 HR336_5 hx335_0 hx335_1 hx335_2 hx335_3 hx335_4 hx335_5 hx335_6 hx336_0 hx336_1 hx336_2 hx336_3 hx336_4 hx336_5 hx336_6 hHeld ⊢
        refine pu_ 0 (some 17) #[true,false,false,false,false,false,false,false,false,false,false,false,false,false,false,false,false,false,false,false,false,false,false,false,false] ?_
        refine pu_ 1 (some 18) #[true,true,false,false,false,false,false,false,false,false,false,false,false,false,false,false,false,false,false,false,false,false,false,false,false] ?_
        refine pu_ 2 (some 19) #[true,true,true,false,false,false,false,false,false,false,false,false,false,false,false,false,false,false,false,false,false,false,false,false,false] ?_
        refine pu_ 3 (some 20) #[true,true,true,true,false,false,false,false,false,false,false,false,false,false,false,false,false,false,false,false,false,false,false,false,false] ?_
        refine pu_ 5 (some 22) #[true,true,true,true,false,true,false,false,false,false,false,false,false,false,false,false,false,false,false,false,false,false,false,false,false] ?_
        refine pu_ 6 (some 23) #[true,true,true,true,false,true,true,false,false,false,false,false,false,false,false,false,false,false,false,false,false,false,false,false,false] ?_
        refine pu_ 7 (some 24) #[true,true,true,true,false,true,true,true,false,false,false,false,false,false,false,false,false,false,false,false,false,false,false,false,false] ?_
        refine pu_ 8 (some 25) #[true,true,true,true,false,true,true,true,true,false,false,false,false,false,false,false,false,false,false,false,false,false,false,false,false] ?_
        refine tk_ 4 (some 21) #[true,true,true,true,true,true,true,true,true,false,false,false,false,false,false,false,false,false,false,false,false,false,false,false,false] hHeld ?_
        refine tk_ 9 (some 26) #[true,true,true,true,true,true,true,true,true,true,false,false,false,false,false,false,false,false,false,false,false,false,false,false,false] hHeld ?_
        refine pu_ 10 (some 27) #[true,true,true,true,true,true,true,true,true,true,true,false,false,false,false,false,false,false,false,false,false,false,false,false,false] ?_
        refine pu_ 11 (some 28) #[true,true,true,true,true,true,true,true,true,true,true,true,false,false,false,false,false,false,false,false,false,false,false,false,false] ?_
        refine pure_ (i:=12) (N:=some 29) (v:=undef) (a':=?_) #[true,true,true,true,true,true,true,true,true,true,true,true,true,false,false,false,false,false,false,false,false,false,false,false,false] rfl rfl (any_of HT_.out kr_) (fun _ _ _ h=>h) (Or.inr ⟨by rfl,rfl⟩) ?_ ?_
        rotate_left
        ·simp only [Act.put,List.setIfInBounds_toArray,List.set_cons_zero,List.set_cons_succ,i64_w,i32_w]
         rfl
        refine pure_ (i:=13) (N:=some 30) (v:=undef) (a':=?_) #[true,true,true,true,true,true,true,true,true,true,true,true,true,true,false,false,false,false,false,false,false,false,false,false,false] rfl rfl (any_of HT_.out kr_) (fun _ _ _ h=>h) (Or.inr ⟨by rfl,rfl⟩) ?_ ?_
        rotate_left
        ·simp only [Act.put,List.setIfInBounds_toArray,List.set_cons_zero,List.set_cons_succ,i64_w,i32_w]
         rfl
        refine pure_ (i:=14) (N:=some 31) (v:=undef) (a':=?_) #[true,true,true,true,true,true,true,true,true,true,true,true,true,true,true,false,false,false,false,false,false,false,false,false,false] rfl rfl (any_of HT_.out kr_) (fun _ _ _ h=>h) (Or.inr ⟨by rfl,rfl⟩) ?_ ?_
        rotate_left
        ·simp only [Act.put,List.setIfInBounds_toArray,List.set_cons_zero,List.set_cons_succ,i64_w,i32_w]
         rfl
        refine pure_ (i:=15) (N:=some 32) (v:=undef) (a':=?_) #[true,true,true,true,true,true,true,true,true,true,true,true,true,true,true,true,false,false,false,false,false,false,false,false,false] rfl rfl (any_of HT_.out kr_) (fun _ _ _ h=>h) (Or.inr ⟨by rfl,rfl⟩) ?_ ?_
        rotate_left
        ·simp only [Act.put,List.setIfInBounds_toArray,List.set_cons_zero,List.set_cons_succ,i64_w,i32_w]
         rfl
        refine pure_ (i:=16) (N:=some 33) (v:=undef) (a':=?_) #[true,true,true,true,true,true,true,true,true,true,true,true,true,true,true,true,true,false,false,false,false,false,false,false,false] rfl rfl (any_of HT_.out kr_) (fun _ _ _ h=>h) (Or.inr ⟨by rfl,rfl⟩) ?_ ?_
        rotate_left
        ·simp only [Act.put,List.setIfInBounds_toArray,List.set_cons_zero,List.set_cons_succ,i64_w,i32_w]
         rfl
        refine pure_ (i:=17) (N:=some 34) (v:=undef) (a':=?_) #[true,true,true,true,true,true,true,true,true,true,true,true,true,true,true,true,true,true,false,false,false,false,false,false,false] rfl rfl (any_of HT_.out kr_) (fun _ _ _ h=>h) (Or.inr ⟨by rfl,rfl⟩) ?_ ?_
        rotate_left
        ·simp only [Act.put,List.setIfInBounds_toArray,List.set_cons_zero,List.set_cons_succ,i64_w,i32_w]
         rfl
        refine pure_ (i:=18) (N:=some 35) (v:=undef) (a':=?_) #[true,true,true,true,true,true,true,true,true,true,true,true,true,true,true,true,true,true,true,false,false,false,false,false,false] rfl rfl (any_of HT_.out kr_) (fun _ _ _ h=>h) (Or.inr ⟨by rfl,rfl⟩) ?_ ?_
        rotate_left
        ·simp only [Act.put,List.setIfInBounds_toArray,List.set_cons_zero,List.set_cons_succ,i64_w,i32_w]
         rfl
        refine pure_ (i:=19) (N:=some 36) (v:=undef) (a':=?_) #[true,true,true,true,true,true,true,true,true,true,true,true,true,true,true,true,true,true,true,true,false,false,false,false,false] rfl rfl (any_of HT_.out kr_) (fun _ _ _ h=>h) (Or.inr ⟨by rfl,rfl⟩) ?_ ?_
        rotate_left
        ·simp only [Act.put,List.setIfInBounds_toArray,List.set_cons_zero,List.set_cons_succ,i64_w,i32_w]
         rfl
        refine pure_ (i:=20) (N:=some 37) (v:=undef) (a':=?_) #[true,true,true,true,true,true,true,true,true,true,true,true,true,true,true,true,true,true,true,true,true,false,false,false,false] rfl rfl (any_of HT_.out kr_) (fun _ _ _ h=>h) (Or.inr ⟨by rfl,rfl⟩) ?_ ?_
        rotate_left
        ·simp only [Act.put,List.setIfInBounds_toArray,List.set_cons_zero,List.set_cons_succ,i64_w,i32_w]
         rfl
        refine pure_ (i:=21) (N:=some 38) (v:=undef) (a':=?_) #[true,true,true,true,true,true,true,true,true,true,true,true,true,true,true,true,true,true,true,true,true,true,false,false,false] rfl rfl (any_of HT_.out kr_) (fun _ _ _ h=>h) (Or.inr ⟨by rfl,rfl⟩) ?_ ?_
        rotate_left
        ·simp only [Act.put,List.setIfInBounds_toArray,List.set_cons_zero,List.set_cons_succ,i64_w,i32_w]
         rfl
        refine pure_ (i:=22) (N:=some 39) (v:=undef) (a':=?_) #[true,true,true,true,true,true,true,true,true,true,true,true,true,true,true,true,true,true,true,true,true,true,true,false,false] rfl rfl (any_of HT_.out kr_) (fun _ _ _ h=>h) (Or.inr ⟨by rfl,rfl⟩) ?_ ?_
        rotate_left
        ·simp only [Act.put,List.setIfInBounds_toArray,List.set_cons_zero,List.set_cons_succ,i64_w,i32_w]
         rfl
        refine pure_ (i:=23) (N:=some 40) (v:=undef) (a':=?_) #[true,true,true,true,true,true,true,true,true,true,true,true,true,true,true,true,true,true,true,true,true,true,true,true,false] rfl rfl (any_of HT_.out kr_) (fun _ _ _ h=>h) (Or.inr ⟨by rfl,rfl⟩) ?_ ?_
        rotate_left
        ·simp only [Act.put,List.setIfInBounds_toArray,List.set_cons_zero,List.set_cons_succ,i64_w,i32_w]
         rfl
        refine pu_ 24 (some 41) #[true,true,true,true,true,true,true,true,true,true,true,true,true,true,true,true,true,true,true,true,true,true,true,true,true] ?_
        refine done_ (done_of HT_.out kr_) ?_
        try go_wp2
        go_ret
        exact ⟨rf_,bx_⟩
      ·rw [if_neg c6] at H
       exact absurd H sm_
     ·rw [if_neg c5] at H
      exact absurd H sm_
    ·rw [if_neg c4] at H
     have c4b0:decide (x5_1 < (l0.length:Int)) = false:=decide_eq_false c4
     clear c4
     obtain rfl:=Option.some.inj H
     go_wp2
     go_ret
     exact ⟨rf_,bx_⟩
 ·rw [if_neg c3] at H
  have c3b0:((l0.length:Int) == (l1.length:Int)) = false:=beq_eq_false_iff_ne.mpr c3
  have c3b1:((l0.length:Int) != (l1.length:Int)) = true:=bne_iff_ne.mpr c3
  have c3b2:(l0.length == l1.length) = false:=by first|simpa using c3|(simp at c3 ⊢;omega)
  obtain rfl:=Option.some.inj H
  go_enter Tryz.func24,Tryz.ntmps24
  go_wp2
  go_ret
  exact ⟨rf_,bx_⟩
end Go.Proofs.YtcmbggahndfnnaaGreatDoor.Pr
namespace Go.Proofs.YtcmbggahndfnnaaGreatDoor.Pr
open Go.RowKit Go.Proofs.YtcmbggahndfnnaaGreatDoorW.PrintWords Go.Proofs.YtcmbggahndfnnaaGreatDoorW.PrintLast Go.Proofs.YtcmbggahndfnnaaGreatDoorW.PrintMore
attribute [local go_sem] max2_int min2_int max_two min_two max_three min_three max_four min_four
set_option maxHeartbeats 8000000
set_option maxRecDepth 100000
set_option linter.unusedVariables false
set_option linter.unusedSimpArgs false
mutual
def record_Check.l0:Nat→List (S52)→List (S52)→Int→Int→Option (Int × Int)
 | 0,_,_,_,_=>none
 | k + 1,x0,x11,x12,x13=>if x13 < x12 then (if 0≤x13 then (if x13 < (x11.length:Int) then (if x13≤(x0.length:Int) then ((record_fits.f k (x0.take (x13:Int).toNat) ((rd_T52 x11 x13).f0.f0) ((rd_T52 x11 x13).f0.f1) ((rd_T52 x11 x13).f0.f2) ((rd_T52 x11 x13).f0.f3) ((rd_T52 x11 x13).f0.f4) ((rd_T52 x11 x13).f0.f5)).bind fun bt242=>(if bt242.2 = 0 then ((record_seal.f (x0.take (x13:Int).toNat) bt242.1).bind fun t248=>(record_Check.j1 k x0 x13 bt242.2 x11 x12 x13 (((rd_T52 x11 x13).f1).toList != t248.toList))) else (record_Check.j1 k x0 x13 bt242.2 x11 x12 x13 false))) else (none)) else (none)) else (none)) else (some ((-1),0))
def record_Check.j1:Nat→List (S52)→Int→Int→List (S52)→Int→Int→Bool→Option (Int × Int)
 | 0,_,_,_,_,_,_,_=>none
 | k + 1,x0,x4,x7,x11,x12,x13,x38=>if x38 = true then (if 14 = 0 then (record_Check.l0 k x0 x11 x12 (wrap64 (x13 + 1))) else (some (x4,14))) else (if x7 = 0 then (record_Check.l0 k x0 x11 x12 (wrap64 (x13 + 1))) else (some (x4,x7)))
end
def record_Check.f (k:Nat) (l0:List (S52)):Option (Int × Int):=if (l0.length:Int) > 1024 then (some ((-1),8)) else (record_Check.l0 k l0 l0 (l0.length:Int) 0)
theorem record_Check.mono_l:∀ k,(∀ y0 y1 y2 y3,LeO (record_Check.l0 k y0 y1 y2 y3) (record_Check.l0 (k + 1) y0 y1 y2 y3))∧(∀ y0 y1 y2 y3 y4 y5 y6,LeO (record_Check.j1 k y0 y1 y2 y3 y4 y5 y6) (record_Check.j1 (k + 1) y0 y1 y2 y3 y4 y5 y6))
 | 0=>⟨fun _ _ _ _ r h=>by simp [record_Check.l0] at h,fun _ _ _ _ _ _ _ r h=>by simp [record_Check.j1] at h⟩
 | k + 1=>by
  obtain ⟨ih0,ih1⟩:=record_Check.mono_l k
  refine ⟨?_,?_⟩
  ·intro y0 y1 y2 y3
   unfold record_Check.l0
   repeat' first
   | (with_reducible exact ih0 _ _ _ _)
   | (with_reducible exact ih1 _ _ _ _ _ _ _)
   | (with_reducible exact record_fits.mono _ _ _ _ _ _ _ _)
   | (with_reducible exact LeO.refl _)
   | (with_reducible exact LeO.none _)
   | (with_reducible refine LeO.ite ?_ ?_)
   | (with_reducible refine LeO.bind ?_ (fun _=>?_))
   | exact ih0 _ _ _ _
   | exact ih1 _ _ _ _ _ _ _
   | exact record_fits.mono _ _ _ _ _ _ _ _
   | exact LeO.none _
   | refine LeO.ite ?_ ?_
   | refine LeO.bind ?_ (fun _=>?_)
  ·intro y0 y1 y2 y3 y4 y5 y6
   unfold record_Check.j1
   repeat' first
   | (with_reducible exact ih0 _ _ _ _)
   | (with_reducible exact ih1 _ _ _ _ _ _ _)
   | (with_reducible exact record_fits.mono _ _ _ _ _ _ _ _)
   | (with_reducible exact LeO.refl _)
   | (with_reducible exact LeO.none _)
   | (with_reducible refine LeO.ite ?_ ?_)
   | (with_reducible refine LeO.bind ?_ (fun _=>?_))
   | exact ih0 _ _ _ _
   | exact ih1 _ _ _ _ _ _ _
   | exact record_fits.mono _ _ _ _ _ _ _ _
   | exact LeO.none _
   | refine LeO.ite ?_ ?_
   | refine LeO.bind ?_ (fun _=>?_)
theorem record_Check.mono:∀ a0 k,LeO (record_Check.f k a0) (record_Check.f (k + 1) a0):=by
 intro a0 k
 obtain ⟨ih0,ih1⟩:=record_Check.mono_l k
 unfold record_Check.f
 repeat' first
   | (with_reducible exact ih0 _ _ _ _)
   | (with_reducible exact ih1 _ _ _ _ _ _ _)
   | (with_reducible exact record_fits.mono _ _ _ _ _ _ _ _)
   | (with_reducible exact LeO.refl _)
   | (with_reducible exact LeO.none _)
   | (with_reducible refine LeO.ite ?_ ?_)
   | (with_reducible refine LeO.bind ?_ (fun _=>?_))
   | exact ih0 _ _ _ _
   | exact ih1 _ _ _ _ _ _ _
   | exact record_fits.mono _ _ _ _ _ _ _ _
   | exact LeO.none _
   | refine LeO.ite ?_ ?_
   | refine LeO.bind ?_ (fun _=>?_)
def record_Check.T6:Bool × List (List Nat × List Nat):=(true,[([],[]),([],[]),([0,1],[0,1]),([],[]),([3],[3]),([2,4],[2,4]),([5],[5]),([6],[6]),([6],[6]),([7,5,0,1,2,3,4,5,6,7],[7]),([8,9,0,1,2,3,4,5,6,7,8,9],[8])])
def record_Check.B6:List Nat:=[0,0,3,0,8,31,63,127,127,255,1023]
theorem record_Check.tab6:rtab .any (opsOf Tryz.f27 6) = record_Check.T6:=by kernel_rfl
theorem record_Check.bits6:waitsOk record_Check.T6.2 record_Check.B6 = true:=by kernel_rfl
def record_Check.T7:Bool × List (List Nat × List Nat):=(true,[([],[]),([0],[0]),([1],[1]),([2],[2]),([3,2],[2,3]),([2],[2]),([2],[2]),([5,6,2],[2,5,6]),([2],[2]),([7,8,2,2],[2,7,8]),([4,9,2],[2,4,9]),([2,10],[2,10])])
def record_Check.B7:List Nat:=[0,1,3,7,15,7,7,103,7,487,1023,2047]
theorem record_Check.tab7:rtab .any (opsOf Tryz.f27 7) = record_Check.T7:=by kernel_rfl
theorem record_Check.bits7:waitsOk record_Check.T7.2 record_Check.B7 = true:=by kernel_rfl
theorem record_Check.calls (k:Nat) (A0:Option Addr) (c0:Nat) (l0:List (S52)) (r1:Int) (r2:Int) (w:World) (hr0:Kd.C k52 w A0 l0.length l0) (hc0:l0.length≤c0) (hL:LaidW w) (h:record_Check.f k l0 = some (r1,r2)) :
  Calls Tryz.prog 27 #[.slice A0 l0.length c0] w fun e w'=>e = .returned (.tuple #[.int .i64 r1,.int .i64 r2])∧Below w.heap.size w w':=by
 have hu52:=Tryz.underlying52
 have hu26:=Tryz.underlying26
 have HR0:=Aside0.mk hr0
 have HC0:=Aside0.mk hc0
 clear hr0 hc0
 have HB:=Aside0.mk (Below.refl w.heap.size w)
 have HLW:=Aside0.mk hL
 clear hL
 have H:=h;clear h;unfold record_Check.f at H
 by_cases c2:(l0.length:Int) > 1024
 ·rw [if_pos c2] at H
  have c2b0:decide (1024 < (l0.length:Int)) = true:=decide_eq_true c2
  have c2b1:decide (1024 < l0.length) = true:=decide_eq_true (by omega)
  clear c2
  simp only [Option.some.injEq,Prod.mk.injEq] at H
  obtain ⟨rfl,rfl⟩:=H
  go_enter Tryz.func27,Tryz.ntmps27
  go_wp2
  go_ret2
  exact ⟨rf_,bx_⟩
 ·rw [if_neg c2] at H
  have c2b0:decide (1024 < (l0.length:Int)) = false:=decide_eq_false c2
  have c2b1:decide (1024 < l0.length) = false:=decide_eq_false (by omega)
  clear c2
  have H':=Aside0.mk H
  clear H
  go_enter Tryz.func27,Tryz.ntmps27
  go_wp2
  go_loopg [13] k (fun kq v13 w'=>∃ (x13_1:Int),v13 = .int .i64 x13_1∧Aside0 (record_Check.l0 kq l0 l0 (l0.length:Int) x13_1 = some (r1,r2))∧Aside0 (kq≤k)∧Aside0 (Below w.heap.size w w'))
  case atStart=>exact ⟨(0),rg_,H',⟨Nat.le_refl _⟩,⟨bx_⟩⟩
  case round =>
   clear H'
   try clear c2
   try clear c2b0
   try clear c2b1
   obtain ⟨x13_1,rfl,HA,HK1,HB⟩:=hrel
   cases gk with
   | zero=>exact absurd HA.out (by simp [record_Check.l0])
   | succ k1 =>
    have H:=HA.out
    clear HA
    simp only [record_Check.l0] at H
    by_cases c3:x13_1 < (l0.length:Int)
    ·rw [if_pos c3] at H
     have c3b0:decide (x13_1 < (l0.length:Int)) = true:=decide_eq_true c3
     clear c3
     by_cases c4:0≤x13_1
     ·rw [if_pos c4] at H
      have c4b0:decide (0≤x13_1) = true:=decide_eq_true c4
      clear c4
      by_cases c5:x13_1 < (l0.length:Int)
      ·rw [if_pos c5] at H
       have c5b0:decide (x13_1 < (l0.length:Int)) = true:=decide_eq_true c5
       clear c5
       have c6b0:=eq_true (of_decide_eq_true (by first|(with_reducible assumption)|assumption):0≤x13_1)
       by_cases c7:x13_1≤(l0.length:Int)
       ·rw [if_pos c7] at H
        have c7b0:=eq_true c7
        have c7b1:decide (x13_1≤(l0.length:Int)) = true:=decide_eq_true c7
        clear c7
        obtain ⟨y238,hy238⟩:∃ y_:List (S52),y_ = (l0.take (x13_1:Int).toNat):=⟨_,rfl⟩
        replace H:((record_fits.f k1 y238 ((rd_T52 l0 x13_1).f0.f0) ((rd_T52 l0 x13_1).f0.f1) ((rd_T52 l0 x13_1).f0.f2) ((rd_T52 l0 x13_1).f0.f3) ((rd_T52 l0 x13_1).f0.f4) ((rd_T52 l0 x13_1).f0.f5)).bind fun bt242=>(if bt242.2 = 0 then ((record_seal.f (l0.take (x13_1:Int).toNat) bt242.1).bind fun t248=>(record_Check.j1 k1 l0 x13_1 bt242.2 l0 (l0.length:Int) x13_1 (((rd_T52 l0 x13_1).f1).toList != t248.toList))) else (record_Check.j1 k1 l0 x13_1 bt242.2 l0 (l0.length:Int) x13_1 false))) = some (r1,r2):=by first|(rw [hy238];with_reducible exact H)|(have H2_:=(Option.bind_some _ _).symm.trans H;rw [hy238];with_reducible exact H2_)|(have H2_:=(Option.bind_some _ _).symm.trans H;with_reducible exact H2_)|with_reducible exact H|(rw [hy238];exact H)|exact H
        have Ny238:=Aside0.mk hy238
        clear hy238
        obtain ⟨⟨t242,t243⟩,A8,H⟩:=bn_ H
        dsimp only at H
        have HC9:=Aside0.mk H
        clear H
        have p236:0≤(x13_1:Int):=da_
        have q236:x13_1 < (l0.length:Int):=da_
        obtain ⟨ad236,A236_3,c236_3,A236_4,c236_4,A236_5,c236_5,e236,hx236_0,hx236_1,hx236_2,hx236_3,hx236_4,hx236_5,hx236_6,hl236_3,hi236_3,hl236_4,hi236_4,hl236_5,hi236_5⟩:=at_T52 HR0.out x13_1 p236 q236
        cases e236
        replace hx236_0:=(HB.out.cell (World.block_lt_of_cell? w _ hx236_0)).trans hx236_0
        replace hx236_1:=(HB.out.cell (World.block_lt_of_cell? w _ hx236_1)).trans hx236_1
        replace hx236_2:=(HB.out.cell (World.block_lt_of_cell? w _ hx236_2)).trans hx236_2
        replace hx236_3:=(HB.out.cell (World.block_lt_of_cell? w _ hx236_3)).trans hx236_3
        replace hx236_4:=(HB.out.cell (World.block_lt_of_cell? w _ hx236_4)).trans hx236_4
        replace hx236_5:=(HB.out.cell (World.block_lt_of_cell? w _ hx236_5)).trans hx236_5
        replace hx236_6:=(HB.out.cell (World.block_lt_of_cell? w _ hx236_6)).trans hx236_6
        have HR236_3:=Aside0.mk hi236_3
        have HC236_3:=Aside0.mk hl236_3
        clear hi236_3 hl236_3
        have HR236_4:=Aside0.mk hi236_4
        have HC236_4:=Aside0.mk hl236_4
        clear hi236_4 hl236_4
        have HR236_5:=Aside0.mk hi236_5
        have HC236_5:=Aside0.mk hl236_5
        clear hi236_5 hl236_5
        replace p236:=eq_true p236
        replace q236:=eq_true q236
        try go_wp2_with (first|((with_reducible refine gate_dst (N:=5) rfl ?_);refine bv_ #[.int .i64 0,.int .i64 0,.int .i64 0,.slice none 0 0,.slice none 0 0,.slice none 0 0,.string (⟨#[]⟩:ByteArray)] 52 ?_;clear HB;intro gb237 hg w10 BK237 GE237 hb HB;clear hb hg;obtain ⟨hcz11_0,hcz11_1,hcz11_2,hcz11_3,hcz11_4,hcz11_5,hcz11_6,hfz11_0,hfz11_1,hfz11_2,hfz11_3,hfz11_4,hfz11_5,hfz11_6⟩:=c7_ BK237))
        generalize hw_:(((((((w10.setCell ⟨gb237,0,none⟩ (.int .i64 ((rd_T52 l0 x13_1).f0.f0))).setCell ⟨gb237,1,none⟩ (.int .i64 ((rd_T52 l0 x13_1).f0.f1))).setCell ⟨gb237,2,none⟩ (.int .i64 ((rd_T52 l0 x13_1).f0.f2))).setCell ⟨gb237,3,none⟩ (.slice A236_3 ((rd_T52 l0 x13_1).f0.f3).length c236_3)).setCell ⟨gb237,4,none⟩ (.slice A236_4 ((rd_T52 l0 x13_1).f0.f4).length c236_4)).setCell ⟨gb237,5,none⟩ (.slice A236_5 ((rd_T52 l0 x13_1).f0.f5).length c236_5)).setCell ⟨gb237,6,none⟩ (.string ((rd_T52 l0 x13_1).f1))) = w12
        replace BK237:Aside0 (w12.heap[gb237]? = some (.cells #[.int .i64 ((rd_T52 l0 x13_1).f0.f0),.int .i64 ((rd_T52 l0 x13_1).f0.f1),.int .i64 ((rd_T52 l0 x13_1).f0.f2),.slice A236_3 ((rd_T52 l0 x13_1).f0.f3).length c236_3,.slice A236_4 ((rd_T52 l0 x13_1).f0.f4).length c236_4,.slice A236_5 ((rd_T52 l0 x13_1).f0.f5).length c236_5,.string ((rd_T52 l0 x13_1).f1)] 52 (0,0))):=gk_ hw_
        replace HB:=gb_ hw_
        clear hw_
        replace BK237:=dr_ BK237
        replace HB:=db_ HB
        have q14:(x13_1:Int)≤((l0.length:Int):Int):=da_
        obtain ⟨i014,hi014,_,hsz14,_⟩:=info_parts info52
        have hroom14:l0.length≤c0:=HC0.out
        have hC14:Kd.C k52 _ (some ad236) l0.length l0:=HR0.out
        have hcut14:=cut_to (P:=Tryz.prog) 37 52 .i64 Tryz.underlying37 hi014 (some ad236) l0.length c0 x13_1 (of_decide_eq_true (by first|(with_reducible assumption)|assumption)) q14 hroom14
        have hr14:=Kd.C_take (m:=(x13_1:Int).toNat) hC14 (by omega)
        have hy14:y238.length = (x13_1:Int).toNat:=(by rw [Ny238.out,List.length_take];omega)
        rw [← Ny238.out] at hr14
        rw [← hy14] at hcut14
        have HR241:=Aside0.mk hr14
        have HC241:=Aside0.mk (show y238.length≤c0 from by omega)
        clear hr14 hC14 hroom14 hi014 hsz14
        have KY14:=Aside0.mk hy14
        clear hy14
        replace q14:=eq_true q14
        refine start_ (n:=11) (S:=fun w'=>w'.cell? ⟨gb237,0,none⟩ = some (.int .i64 ((rd_T52 l0 x13_1).f0.f0))∧w'.cell? ⟨gb237,1,none⟩ = some (.int .i64 ((rd_T52 l0 x13_1).f0.f1))∧w'.cell? ⟨gb237,2,none⟩ = some (.int .i64 ((rd_T52 l0 x13_1).f0.f2))∧w'.cell? ⟨gb237,3,none⟩ = some (.slice A236_3 ((rd_T52 l0 x13_1).f0.f3).length c236_3)∧w'.cell? ⟨gb237,4,none⟩ = some (.slice A236_4 ((rd_T52 l0 x13_1).f0.f4).length c236_4)∧w'.cell? ⟨gb237,5,none⟩ = some (.slice A236_5 ((rd_T52 l0 x13_1).f0.f5).length c236_5)∧w'.cell? ⟨gb237,6,none⟩ = some (.string ((rd_T52 l0 x13_1).f1))) (ds:=[]) #[false,false,false,false,false,false,false,false,false,false,false] kr_ rfl rfl hc_ (fun hHeld=>?_);refine with_tabW record_Check.tab6 record_Check.bits6 (fun HT_ HW_=>?_)
        generalize w12.drew = w13 at BK237 HB HR241 hHeld ⊢
        refine pu_ 0 (some 19) #[true,false,false,false,false,false,false,false,false,false,false] ?_
        refine pu_ 1 (some 20) #[true,true,false,false,false,false,false,false,false,false,false] ?_
        refine pu_ 2 (some 21) #[true,true,true,false,false,false,false,false,false,false,false] ?_
        refine pu_ 3 (some 22) #[true,true,true,true,false,false,false,false,false,false,false] ?_
        refine tk_ 4 (some 23) #[true,true,true,true,true,false,false,false,false,false,false] hHeld ?_
        refine oc_ 5 (some 24) #[true,true,true,true,true,true,false,false,false,false,false] Tryz.func60 #[.slice (some ad236) y238.length c0,.agg #[.int .i64 ((rd_T52 l0 x13_1).f0.f0),.int .i64 ((rd_T52 l0 x13_1).f0.f1),.int .i64 ((rd_T52 l0 x13_1).f0.f2),.slice A236_3 ((rd_T52 l0 x13_1).f0.f3).length c236_3,.slice A236_4 ((rd_T52 l0 x13_1).f0.f4).length c236_4,.slice A236_5 ((rd_T52 l0 x13_1).f0.f5).length c236_5]] (fun K hK=>?_)
        with_reducible refine (record_fits.calls k1 _ _ y238 ((rd_T52 l0 x13_1).f0.f0) ((rd_T52 l0 x13_1).f0.f1) ((rd_T52 l0 x13_1).f0.f2) _ _ ((rd_T52 l0 x13_1).f0.f3) _ _ ((rd_T52 l0 x13_1).f0.f4) _ _ ((rd_T52 l0 x13_1).f0.f5) t242 t243 _ ?side1 ?side2 ?side3 ?side4 ?side5 ?side6 ?side7 ?side8 ?side9 A8.out).mono ?_
        (case side1=>exact cx_ (Kd.C_below HR241.out HB.out))
        (case side2=>exact HC241.out)
        (case side3=>exact cx_ (Kd.C_below HR236_3.out HB.out))
        (case side4=>exact HC236_3.out)
        (case side5=>exact cx_ (Kd.C_below HR236_4.out HB.out))
        (case side6=>exact HC236_4.out)
        (case side7=>exact cx_ (Kd.C_below HR236_5.out HB.out))
        (case side8=>exact HC236_5.out)
        (case side9=>exact HLW.out.below bx_)
        rintro e w15 ⟨rfl,hb⟩
        refine ⟨_,rfl,?_⟩
        replace BK237:=bb_ BK237 hb
        replace HB:=bs_ hb
        (try clear hb)
        refine hk_ hK (fun hHeld=>?_);clear hK K
        refine pu_ 6 (some 18) #[true,true,true,true,true,true,true,false,false,false,false] ?_
        refine pu_ 7 (some 25) #[true,true,true,true,true,true,true,true,false,false,false] ?_
        refine pu_ 8 (some 26) #[true,true,true,true,true,true,true,true,true,false,false] ?_
        refine pu_ 9 (some 6) #[true,true,true,true,true,true,true,true,true,true,false] ?_
        refine pu_ 10 (some 7) #[true,true,true,true,true,true,true,true,true,true,true] ?_
        refine done_ (done_of HT_.out kr_) ?_
        go_upto_region 7 with (fail)
        go_cut [38] (fun v38 wc=>∃ (kq:Nat) (x38_8:Bool),v38 = .bool x38_8∧Aside0 (record_Check.j1 kq l0 x13_1 t243 l0 (l0.length:Int) x13_1 x38_8 = some (r1,r2))∧Aside0 (kq≤k1)∧Aside0 (wc.heap[gb237]? = some (.cells #[.int .i64 ((rd_T52 l0 x13_1).f0.f0),.int .i64 ((rd_T52 l0 x13_1).f0.f1),.int .i64 ((rd_T52 l0 x13_1).f0.f2),(.slice A236_3 ((rd_T52 l0 x13_1).f0.f3).length c236_3),(.slice A236_4 ((rd_T52 l0 x13_1).f0.f4).length c236_4),(.slice A236_5 ((rd_T52 l0 x13_1).f0.f5).length c236_5),.string ((rd_T52 l0 x13_1).f1)] 52 (0,0)))∧Aside0 (Below w.heap.size w wc))
        case first =>
         have H:=HC9.out
         clear HC9
         by_cases c16:t243 = 0
         ·rw [if_pos c16] at H
          have c16b0:(t243 == 0) = true:=beq_iff_eq.mpr c16
          have c16b1:(t243 != 0) = false:=bne_eq_false_iff_eq.mpr c16
          clear c16
          (first|rw [c16b0]|(simp only [i64_w,i32_w];rw [c16b0])|skip)
          have c17b0:=eq_true (of_decide_eq_true (by first|(with_reducible assumption)|assumption):0≤x13_1)
          have c18b0:=eq_true (of_decide_eq_true (by first|(with_reducible assumption)|assumption):x13_1≤(l0.length:Int))
          obtain ⟨y244,hy244⟩:∃ y_:List (S52),y_ = (l0.take (x13_1:Int).toNat):=⟨_,rfl⟩
          replace H:((record_seal.f y244 t242).bind fun t248=>(record_Check.j1 k1 l0 x13_1 t243 l0 (l0.length:Int) x13_1 (((rd_T52 l0 x13_1).f1).toList != t248.toList))) = some (r1,r2):=by first|(rw [hy244];with_reducible exact H)|(have H2_:=(Option.bind_some _ _).symm.trans H;rw [hy244];with_reducible exact H2_)|(have H2_:=(Option.bind_some _ _).symm.trans H;with_reducible exact H2_)|with_reducible exact H|(rw [hy244];exact H)|exact H
          have Ny244:=Aside0.mk hy244
          clear hy244
          obtain ⟨t248,A19,H⟩:=bn_ H
          have H':=Aside0.mk H
          clear H
          try go_wp2
          replace BK237:=dr_ BK237
          replace HB:=db_ HB
          have q21:(x13_1:Int)≤((l0.length:Int):Int):=da_
          obtain ⟨i021,hi021,_,hsz21,_⟩:=info_parts info52
          have hroom21:l0.length≤c0:=HC0.out
          have hC21:Kd.C k52 _ (some ad236) l0.length l0:=HR0.out
          clear hcut14
          have hcut21:=cut_to (P:=Tryz.prog) 37 52 .i64 Tryz.underlying37 hi021 (some ad236) l0.length c0 x13_1 (of_decide_eq_true (by first|(with_reducible assumption)|assumption)) q21 hroom21
          have hr21:=Kd.C_take (m:=(x13_1:Int).toNat) hC21 (by omega)
          have hy21:y244.length = (x13_1:Int).toNat:=(by rw [Ny244.out,List.length_take];omega)
          rw [← Ny244.out] at hr21
          rw [← hy21] at hcut21
          have HR247:=Aside0.mk hr21
          have HC247:=Aside0.mk (show y244.length≤c0 from by omega)
          clear hr21 hC21 hroom21 hi021 hsz21
          have KY21:=Aside0.mk hy21
          clear hy21
          replace q21:=eq_true q21
          refine start_ (n:=12) (S:=fun w'=>w'.cell? ⟨gb237,0,none⟩ = some (.int .i64 ((rd_T52 l0 x13_1).f0.f0))∧w'.cell? ⟨gb237,1,none⟩ = some (.int .i64 ((rd_T52 l0 x13_1).f0.f1))∧w'.cell? ⟨gb237,2,none⟩ = some (.int .i64 ((rd_T52 l0 x13_1).f0.f2))∧w'.cell? ⟨gb237,3,none⟩ = some (.slice A236_3 ((rd_T52 l0 x13_1).f0.f3).length c236_3)∧w'.cell? ⟨gb237,4,none⟩ = some (.slice A236_4 ((rd_T52 l0 x13_1).f0.f4).length c236_4)∧w'.cell? ⟨gb237,5,none⟩ = some (.slice A236_5 ((rd_T52 l0 x13_1).f0.f5).length c236_5)∧w'.cell? ⟨gb237,6,none⟩ = some (.string ((rd_T52 l0 x13_1).f1))) (ds:=[]) #[false,false,false,false,false,false,false,false,false,false,false,false] kr_ rfl rfl hc_ (fun hHeld=>?_);refine with_tabW record_Check.tab7 record_Check.bits7 (fun HT_ HW_=>?_)
          generalize w15.drew = w20 at BK237 HB HR247 hHeld ⊢
          refine pu_ 0 (some 27) #[true,false,false,false,false,false,false,false,false,false,false,false] ?_
          refine pu_ 1 (some 28) #[true,true,false,false,false,false,false,false,false,false,false,false] ?_
          refine pu_ 2 (some 29) #[true,true,true,false,false,false,false,false,false,false,false,false] ?_
          refine pu_ 3 (some 30) #[true,true,true,true,false,false,false,false,false,false,false,false] ?_
          refine pu_ 5 (some 32) #[true,true,true,true,false,true,false,false,false,false,false,false] ?_
          refine pu_ 6 (some 33) #[true,true,true,true,false,true,true,false,false,false,false,false] ?_
          refine pu_ 7 (some 34) #[true,true,true,true,false,true,true,true,false,false,false,false] ?_
          refine pu_ 8 (some 35) #[true,true,true,true,false,true,true,true,true,false,false,false] ?_
          refine tk_ 4 (some 31) #[true,true,true,true,true,true,true,true,true,false,false,false] hHeld ?_
          refine oc_ 9 (some 36) #[true,true,true,true,true,true,true,true,true,true,false,false] Tryz.func61 #[.slice (some ad236) y244.length c0,.string t242] (fun K hK=>?_)
          with_reducible refine (record_seal.calls _ _ y244 t242 t248 _ ?side1 ?side2 A19.out).mono ?_
          (case side1=>exact cx_ (Kd.C_below HR247.out HB.out))
          (case side2=>exact HC247.out)
          rintro e w22 ⟨rfl,hb⟩
          refine ⟨_,rfl,?_⟩
          replace BK237:=bb_ BK237 hb
          replace HB:=bs_ hb
          (try clear hb)
          refine hk_ hK (fun hHeld=>?_);clear hK K
          refine pu_ 10 (some 37) #[true,true,true,true,true,true,true,true,true,true,true,false] ?_
          refine pu_ 11 (some 38) #[true,true,true,true,true,true,true,true,true,true,true,true] ?_
          refine done_ (done_of HT_.out kr_) ?_
          try go_wp2
          go_meet
          case rel=>exact ⟨_,((((rd_T52 l0 x13_1).f1).toList != t248.toList)),rg_,H',⟨by have:=HK1.out;first|omega|exact Nat.le_refl _⟩,⟨bk_⟩,⟨bx_⟩⟩
         ·rw [if_neg c16] at H
          have c16b0:(t243 == 0) = false:=beq_eq_false_iff_ne.mpr c16
          have c16b1:(t243 != 0) = true:=bne_iff_ne.mpr c16
          (first|rw [c16b0]|(simp only [i64_w,i32_w];rw [c16b0])|skip)
          have H':=Aside0.mk H
          clear H
          try go_wp2
          replace BK237:=dr_ BK237
          replace HB:=db_ HB
          refine start_ (n:=12) (S:=fun w'=>True) (ds:=[]) #[false,false,false,false,false,false,false,false,false,false,false,false] kr_ rfl rfl trivial (fun hHeld=>?_);refine with_tabW record_Check.tab7 record_Check.bits7 (fun HT_ HW_=>?_)
          generalize w15.drew = w23 at BK237 HB hHeld ⊢
          refine pu_ 0 (some 27) #[true,false,false,false,false,false,false,false,false,false,false,false] ?_
          refine pu_ 1 (some 28) #[true,true,false,false,false,false,false,false,false,false,false,false] ?_
          refine pu_ 2 (some 29) #[true,true,true,false,false,false,false,false,false,false,false,false] ?_
          refine pure_ (i:=3) (N:=some 30) (v:=undef) (a':=?_) #[true,true,true,true,false,false,false,false,false,false,false,false] rfl rfl (any_of HT_.out kr_) (fun _ _ _ h=>h) (Or.inr ⟨by rfl,rfl⟩) ?_ ?_
          rotate_left
          ·simp only [Act.put,List.setIfInBounds_toArray,List.set_cons_zero,List.set_cons_succ,i64_w,i32_w]
           rfl
          refine pure_ (i:=4) (N:=some 31) (v:=undef) (a':=?_) #[true,true,true,true,true,false,false,false,false,false,false,false] rfl rfl (any_of HT_.out kr_) (fun _ _ _ h=>h) (Or.inr ⟨by rfl,rfl⟩) ?_ ?_
          rotate_left
          ·simp only [Act.put,List.setIfInBounds_toArray,List.set_cons_zero,List.set_cons_succ,i64_w,i32_w]
           rfl
          refine pure_ (i:=5) (N:=some 32) (v:=undef) (a':=?_) #[true,true,true,true,true,true,false,false,false,false,false,false] rfl rfl (any_of HT_.out kr_) (fun _ _ _ h=>h) (Or.inr ⟨by rfl,rfl⟩) ?_ ?_
          rotate_left
          ·simp only [Act.put,List.setIfInBounds_toArray,List.set_cons_zero,List.set_cons_succ,i64_w,i32_w]
           rfl
          refine pure_ (i:=6) (N:=some 33) (v:=undef) (a':=?_) #[true,true,true,true,true,true,true,false,false,false,false,false] rfl rfl (any_of HT_.out kr_) (fun _ _ _ h=>h) (Or.inr ⟨by rfl,rfl⟩) ?_ ?_
          rotate_left
          ·simp only [Act.put,List.setIfInBounds_toArray,List.set_cons_zero,List.set_cons_succ,i64_w,i32_w]
           rfl
          refine pure_ (i:=7) (N:=some 34) (v:=undef) (a':=?_) #[true,true,true,true,true,true,true,true,false,false,false,false] rfl rfl (any_of HT_.out kr_) (fun _ _ _ h=>h) (Or.inr ⟨by rfl,rfl⟩) ?_ ?_
          rotate_left
          ·simp only [Act.put,List.setIfInBounds_toArray,List.set_cons_zero,List.set_cons_succ,i64_w,i32_w]
           rfl
          refine pure_ (i:=8) (N:=some 35) (v:=undef) (a':=?_) #[true,true,true,true,true,true,true,true,true,false,false,false] rfl rfl (any_of HT_.out kr_) (fun _ _ _ h=>h) (Or.inr ⟨by rfl,rfl⟩) ?_ ?_
          rotate_left
          ·simp only [Act.put,List.setIfInBounds_toArray,List.set_cons_zero,List.set_cons_succ,i64_w,i32_w]
           rfl
          refine pure_ (i:=9) (N:=some 36) (v:=undef) (a':=?_) #[true,true,true,true,true,true,true,true,true,true,false,false] rfl rfl (any_of HT_.out kr_) (fun _ _ _ h=>h) (Or.inr ⟨by rfl,rfl⟩) ?_ ?_
          rotate_left
          ·simp only [Act.put,List.setIfInBounds_toArray,List.set_cons_zero,List.set_cons_succ,i64_w,i32_w]
           rfl
          refine pure_ (i:=10) (N:=some 37) (v:=undef) (a':=?_) #[true,true,true,true,true,true,true,true,true,true,true,false] rfl rfl (any_of HT_.out kr_) (fun _ _ _ h=>h) (Or.inr ⟨by rfl,rfl⟩) ?_ ?_
          rotate_left
          ·simp only [Act.put,List.setIfInBounds_toArray,List.set_cons_zero,List.set_cons_succ,i64_w,i32_w]
           rfl
          refine pu_ 11 (some 38) #[true,true,true,true,true,true,true,true,true,true,true,true] ?_
          refine done_ (done_of HT_.out kr_) ?_
          try go_wp2
          go_meet
          case rel=>exact ⟨_,(false),rg_,H',⟨by have:=HK1.out;first|omega|exact Nat.le_refl _⟩,⟨bk_⟩,⟨bx_⟩⟩
        case rest =>
         clear HC9
         try clear c2
         try clear c2b0
         try clear c2b1
         try clear c3
         try clear c3b0
         try clear c4
         try clear c4b0
         try clear c5
         try clear c5b0
         try clear c6b0
         try clear c7
         try clear c7b0
         try clear c7b1
         try clear q14
         try clear hcz11_0
         try clear hcz11_1
         try clear hcz11_2
         try clear hcz11_3
         try clear hcz11_4
         try clear hcz11_5
         try clear hcz11_6
         try clear hfz11_0
         try clear hfz11_1
         try clear hfz11_2
         try clear hfz11_3
         try clear hfz11_4
         try clear hfz11_5
         try clear hfz11_6
         try clear hx236_0
         try clear hx236_1
         try clear hx236_2
         try clear hx236_3
         try clear hx236_4
         try clear hx236_5
         try clear hx236_6
         try clear p236
         try clear q14
         try clear q236
         obtain ⟨kq,x38_8,rfl,HA,HJ8,BK237,HB⟩:=hcut
         cases kq with
         | zero=>exact absurd HA.out (by simp [record_Check.j1])
         | succ kj8 =>
          have H:=HA.out
          clear HA
          simp only [record_Check.j1] at H
          by_cases c24:x38_8 = true
          ·subst c24
           have H1:(if 14 = 0 then (record_Check.l0 kj8 l0 l0 (l0.length:Int) (wrap64 (x13_1 + 1))) else (some (x13_1,14))) = some (r1,r2):=by rw [if_pos rfl] at H;exact H
           clear H
           have H:=H1
           clear H1
           by_cases c25:14 = 0
           ·exact absurd c25 (by decide)
           ·rw [if_neg c25] at H
            have c25b0:(14 == 0) = false:=beq_eq_false_iff_ne.mpr c25
            have c25b1:(14 != 0) = true:=bne_iff_ne.mpr c25
            simp only [Option.some.injEq,Prod.mk.injEq] at H
            obtain ⟨rfl,rfl⟩:=H
            go_wp2
            go_ret2
            exact ⟨rf_,bx_⟩
          ·replace c24:=Bool.eq_false_iff.mpr c24
           subst c24
           have H1:(if t243 = 0 then (record_Check.l0 kj8 l0 l0 (l0.length:Int) (wrap64 (x13_1 + 1))) else (some (x13_1,t243))) = some (r1,r2):=by rw [if_neg (show ¬ (false = true) by decide)] at H;exact H
           clear H
           have H:=H1
           clear H1
           by_cases c26:t243 = 0
           ·rw [if_pos c26] at H
            have c26b0:(t243 == 0) = true:=beq_iff_eq.mpr c26
            have c26b1:(t243 != 0) = false:=bne_eq_false_iff_eq.mpr c26
            clear c26
            have H':=Aside0.mk H
            clear H
            go_wp2
            go_roundg kj8
            case measure=>have:=HK1.out;have:=HJ8.out;omega
            case rel=>exact ⟨(wrap64 (x13_1 + 1)),rg_,H',⟨by have:=HK1.out;have:=HJ8.out;omega⟩,⟨bx_⟩⟩
           ·rw [if_neg c26] at H
            have c26b0:(t243 == 0) = false:=beq_eq_false_iff_ne.mpr c26
            have c26b1:(t243 != 0) = true:=bne_iff_ne.mpr c26
            simp only [Option.some.injEq,Prod.mk.injEq] at H
            obtain ⟨rfl,rfl⟩:=H
            go_wp2
            go_ret2
            exact ⟨rf_,bx_⟩
       ·rw [if_neg c7] at H
        exact absurd H sm_
      ·rw [if_neg c5] at H
       exact absurd H sm_
     ·rw [if_neg c4] at H
      exact absurd H sm_
    ·rw [if_neg c3] at H
     have c3b0:decide (x13_1 < (l0.length:Int)) = false:=decide_eq_false c3
     clear c3
     simp only [Option.some.injEq,Prod.mk.injEq] at H
     obtain ⟨rfl,rfl⟩:=H
     go_wp2
     go_ret2
     exact ⟨rf_,bx_⟩
end Go.Proofs.YtcmbggahndfnnaaGreatDoor.Pr
namespace Go.Proofs.YtcmbggahndfnnaaGreatDoor.Pr
set_option linter.unusedVariables false
set_option linter.unusedSimpArgs false
open Go.RowKit Go.Proofs.YtcmbggahndfnnaaGreatDoorW.PrintWords Go.Proofs.YtcmbggahndfnnaaGreatDoorW.PrintLast Go.Proofs.YtcmbggahndfnnaaGreatDoorW.PrintMore
def slices_Clone_int_int.f (xs:List Int):Option (List Int):=if xs.length * 8≤140737488355328 then some xs else none
set_option maxRecDepth 100000 in
theorem slices_Clone_int_int.calls (A0:Option Addr) (c0:Nat) (l0 r:List Int) (w:World) (hr0:Kd.C (Kd.int .i64) w A0 l0.length l0) (hc0:l0.length≤c0) (h:slices_Clone_int_int.f l0 = some r) :
  Calls Tryz.prog 81 #[.slice A0 l0.length c0] w fun e w'=>∃ v,e = .returned v∧Kd.R (Kd.int .i64) 3 w' w.heap.size (fun _=>True) v r∧Below w.heap.size w w':=by
 unfold slices_Clone_int_int.f at h
 by_cases hc:l0.length * 8≤140737488355328
 case neg=>rw [if_neg hc] at h;cases h
 rw [if_pos hc] at h
 injection h with h
 subst h
 have HC:=Aside0.mk hr0
 clear hr0 hc0
 rcases A0 with _|ad
 ·have hl:l0 = []:=by
   rcases l0 with _|⟨x,l⟩
   ·rfl
   ·obtain ⟨a,ha,_⟩:=HC.out.2.2 (by simp)
    cases ha
  subst hl
  clear hc HC
  have he:∀ W:World,(binOp .eql 22 (.slice none ([]:List Int).length c0) (.slice none 0 0)).run Tryz.prog W = .ok (.bool true) W:=fun _=>rfl
  simp only [List.length_nil] at he
  go_enter Tryz.func81,Tryz.ntmps81
  go_wp2_with fail
  go_ret
  exact ⟨_,rfl,Kd.R_nil _ _ _ _ _,Below.refl _ _⟩
 ·have HH:=Aside0.mk hc
  clear hc
  have HB:=Aside0.mk (Below.refl w.heap.size w)
  have he:∀ W:World,(binOp .eql 22 (.slice (some ad) l0.length c0) (.slice none 0 0)).run Tryz.prog W = .ok (.bool false) W:=fun _=>rfl
  go_enter Tryz.func81,Tryz.ntmps81
  go_wp2_with (first
   | ((with_reducible refine gate_dst (N:=5) rfl ?_);go_loud (refine Kd.R_lit ((Kd.int .i64)) (w0:=w) w.heap.size 3 ?hg (N:=5) ?hd (xs:=([]:List Int)) (inner:=[]) (ok:=fun _=>True) (okp:=fun _=>False) ?hr ?hp (fun _ hk=>hk.elim) trivial ?hB ?hS (by simp) ?_);(case hd=>rfl);(case hg=>rfl);(case hr=>first|(go_simp;done)|(go_simp;rfl));(case hp=>exact Reps.none _ _);(case hB=>exact HB.out);(case hS=>exact Nat.le_refl _);intro v1 w1 ho hb hg_ hn_;have HO:=Aside0.mk ho;have HB1:=Aside0.mk hb;have HC1:=Aside0.mk (Kd.C_below HC.out hb);clear ho hb hg_ hn_)
   | ((with_reducible refine gate_builtin (b:=.append) (xs:=#[.tmp 5,.tmp 6]) rfl ?_);at_builtin;go_loud (refine Kd.R_append_rows ((Kd.int .i64)) (w0:=w) w.heap.size rfl (.tmp 5) (.tmp 6) 22 3 (.int .i64 0) 8 rfl Tryz.underlying22 info3 rfl (by decide) (by decide) v1 [] l0 (some ad) l0.length c0 (fun _=>True) (fun _=>False) rfl rfl HO.out HC1.out (fun _ _ h=>h) (fun _ h=>h.elim) (fun _ _=>trivial) HB1.out HB1.out.size ?aL ?_);(case aL=>have:=HH.out;simp only [List.length_nil,Nat.zero_add];exact this);intro v2 w2 ho hb hg_ hat;have HO2:=Aside0.mk ho;have HB2:=Aside0.mk hb;clear ho hb hg_ hat))
  go_ret
  exact ⟨_,rfl,by have h:=HO2.out;rw [List.nil_append] at h;exact h,HB2.out⟩
def api_Rat_82.f (xs:List ByteArray):Option (List ByteArray):=if xs.length * 16≤140737488355328 then some xs else none
set_option maxRecDepth 100000 in
theorem api_Rat_82.calls (A0:Option Addr) (c0:Nat) (l0 r:List ByteArray) (w:World) (hr0:Kd.C Kd.string w A0 l0.length l0) (hc0:l0.length≤c0) (h:api_Rat_82.f l0 = some r) :
  Calls Tryz.prog 82 #[.slice A0 l0.length c0] w fun e w'=>∃ v,e = .returned v∧Kd.R Kd.string 65 w' w.heap.size (fun _=>True) v r∧Below w.heap.size w w':=by
 unfold api_Rat_82.f at h
 by_cases hc:l0.length * 16≤140737488355328
 case neg=>rw [if_neg hc] at h;cases h
 rw [if_pos hc] at h
 injection h with h
 subst h
 have HC:=Aside0.mk hr0
 clear hr0 hc0
 rcases A0 with _|ad
 ·have hl:l0 = []:=by
   rcases l0 with _|⟨x,l⟩
   ·rfl
   ·obtain ⟨a,ha,_⟩:=HC.out.2.2 (by simp)
    cases ha
  subst hl
  clear hc HC
  have he:∀ W:World,(binOp .eql 23 (.slice none ([]:List ByteArray).length c0) (.slice none 0 0)).run Tryz.prog W = .ok (.bool true) W:=fun _=>rfl
  simp only [List.length_nil] at he
  go_enter Tryz.func82,Tryz.ntmps82
  go_wp2_with fail
  go_ret
  exact ⟨_,rfl,Kd.R_nil _ _ _ _ _,Below.refl _ _⟩
 ·have HH:=Aside0.mk hc
  clear hc
  have HB:=Aside0.mk (Below.refl w.heap.size w)
  have he:∀ W:World,(binOp .eql 23 (.slice (some ad) l0.length c0) (.slice none 0 0)).run Tryz.prog W = .ok (.bool false) W:=fun _=>rfl
  go_enter Tryz.func82,Tryz.ntmps82
  go_wp2_with (first
   | ((with_reducible refine gate_dst (N:=5) rfl ?_);go_loud (refine Kd.R_lit (Kd.string) (w0:=w) w.heap.size 65 ?hg (N:=5) ?hd (xs:=([]:List ByteArray)) (inner:=[]) (ok:=fun _=>True) (okp:=fun _=>False) ?hr ?hp (fun _ hk=>hk.elim) trivial ?hB ?hS (by simp) ?_);(case hd=>rfl);(case hg=>rfl);(case hr=>first|(go_simp;done)|(go_simp;rfl));(case hp=>exact Reps.none _ _);(case hB=>exact HB.out);(case hS=>exact Nat.le_refl _);intro v1 w1 ho hb hg_ hn_;have HO:=Aside0.mk ho;have HB1:=Aside0.mk hb;have HC1:=Aside0.mk (Kd.C_below HC.out hb);clear ho hb hg_ hn_)
   | ((with_reducible refine gate_builtin (b:=.append) (xs:=#[.tmp 5,.tmp 6]) rfl ?_);at_builtin;go_loud (refine Kd.R_append_rows (Kd.string) (w0:=w) w.heap.size rfl (.tmp 5) (.tmp 6) 23 65 (.string ⟨#[]⟩) 16 rfl Tryz.underlying23 info65 rfl (by decide) (by decide) v1 [] l0 (some ad) l0.length c0 (fun _=>True) (fun _=>False) rfl rfl HO.out HC1.out (fun _ _ h=>h) (fun _ h=>h.elim) (fun _ _=>trivial) HB1.out HB1.out.size ?aL ?_);(case aL=>have:=HH.out;simp only [List.length_nil,Nat.zero_add];exact this);intro v2 w2 ho hb hg_ hat;have HO2:=Aside0.mk ho;have HB2:=Aside0.mk hb;clear ho hb hg_ hat))
  go_ret
  exact ⟨_,rfl,by have h:=HO2.out;rw [List.nil_append] at h;exact h,HB2.out⟩
def slices_Clone_string_string.f (xs:List ByteArray):Option (List ByteArray):=if xs.length * 16≤140737488355328 then some xs else none
set_option maxRecDepth 100000 in
theorem slices_Clone_string_string.calls (A0:Option Addr) (c0:Nat) (l0 r:List ByteArray) (w:World) (hr0:Kd.C Kd.string w A0 l0.length l0) (hc0:l0.length≤c0) (h:slices_Clone_string_string.f l0 = some r) :
  Calls Tryz.prog 83 #[.slice A0 l0.length c0] w fun e w'=>∃ v,e = .returned v∧Kd.R Kd.string 9 w' w.heap.size (fun _=>True) v r∧Below w.heap.size w w':=by
 unfold slices_Clone_string_string.f at h
 by_cases hc:l0.length * 16≤140737488355328
 case neg=>rw [if_neg hc] at h;cases h
 rw [if_pos hc] at h
 injection h with h
 subst h
 have HC:=Aside0.mk hr0
 clear hr0 hc0
 rcases A0 with _|ad
 ·have hl:l0 = []:=by
   rcases l0 with _|⟨x,l⟩
   ·rfl
   ·obtain ⟨a,ha,_⟩:=HC.out.2.2 (by simp)
    cases ha
  subst hl
  clear hc HC
  have he:∀ W:World,(binOp .eql 24 (.slice none ([]:List ByteArray).length c0) (.slice none 0 0)).run Tryz.prog W = .ok (.bool true) W:=fun _=>rfl
  simp only [List.length_nil] at he
  go_enter Tryz.func83,Tryz.ntmps83
  go_wp2_with fail
  go_ret
  exact ⟨_,rfl,Kd.R_nil _ _ _ _ _,Below.refl _ _⟩
 ·have HH:=Aside0.mk hc
  clear hc
  have HB:=Aside0.mk (Below.refl w.heap.size w)
  have he:∀ W:World,(binOp .eql 24 (.slice (some ad) l0.length c0) (.slice none 0 0)).run Tryz.prog W = .ok (.bool false) W:=fun _=>rfl
  go_enter Tryz.func83,Tryz.ntmps83
  go_wp2_with (first
   | ((with_reducible refine gate_dst (N:=5) rfl ?_);go_loud (refine Kd.R_lit (Kd.string) (w0:=w) w.heap.size 9 ?hg (N:=5) ?hd (xs:=([]:List ByteArray)) (inner:=[]) (ok:=fun _=>True) (okp:=fun _=>False) ?hr ?hp (fun _ hk=>hk.elim) trivial ?hB ?hS (by simp) ?_);(case hd=>rfl);(case hg=>rfl);(case hr=>first|(go_simp;done)|(go_simp;rfl));(case hp=>exact Reps.none _ _);(case hB=>exact HB.out);(case hS=>exact Nat.le_refl _);intro v1 w1 ho hb hg_ hn_;have HO:=Aside0.mk ho;have HB1:=Aside0.mk hb;have HC1:=Aside0.mk (Kd.C_below HC.out hb);clear ho hb hg_ hn_)
   | ((with_reducible refine gate_builtin (b:=.append) (xs:=#[.tmp 5,.tmp 6]) rfl ?_);at_builtin;go_loud (refine Kd.R_append_rows (Kd.string) (w0:=w) w.heap.size rfl (.tmp 5) (.tmp 6) 24 9 (.string ⟨#[]⟩) 16 rfl Tryz.underlying24 info9 rfl (by decide) (by decide) v1 [] l0 (some ad) l0.length c0 (fun _=>True) (fun _=>False) rfl rfl HO.out HC1.out (fun _ _ h=>h) (fun _ h=>h.elim) (fun _ _=>trivial) HB1.out HB1.out.size ?aL ?_);(case aL=>have:=HH.out;simp only [List.length_nil,Nat.zero_add];exact this);intro v2 w2 ho hb hg_ hat;have HO2:=Aside0.mk ho;have HB2:=Aside0.mk hb;clear ho hb hg_ hat))
  go_ret
  exact ⟨_,rfl,by have h:=HO2.out;rw [List.nil_append] at h;exact h,HB2.out⟩
end Go.Proofs.YtcmbggahndfnnaaGreatDoor.Pr
namespace Go.Proofs.YtcmbggahndfnnaaGreatDoor.Pr
open Go.RowKit Go.Proofs.YtcmbggahndfnnaaGreatDoorW.PrintWords Go.Proofs.YtcmbggahndfnnaaGreatDoorW.PrintLast Go.Proofs.YtcmbggahndfnnaaGreatDoorW.PrintMore
attribute [local go_sem] max2_int min2_int max_two min_two max_three min_three max_four min_four
set_option maxHeartbeats 8000000
set_option maxRecDepth 100000
set_option linter.unusedVariables false
set_option linter.unusedSimpArgs false
def record_event.f (a0_0:Int) (a0_1:Int) (a0_2:Int) (l0_3:List Int) (l0_4:List ByteArray) (l0_5:List ByteArray):Option (Int × Int × Int × List Int × List ByteArray × List ByteArray):=(slices_Clone_int_int.f l0_3).bind fun t342=>((api_Rat_82.f l0_4).bind fun t345=>((slices_Clone_string_string.f l0_5).bind fun t348=>(some (a0_0,a0_1,a0_2,t342,t345,t348))))
def record_event.T1:Bool × List (List Nat × List Nat):=(true,[([],[]),([0],[0]),([1],[1]),([],[]),([3],[3]),([4,2],[4]),([],[]),([6],[6]),([7,5],[7]),([0,1,2,3,4,6,7],[]),([9,2,8,0,1,2,3,4,6,7],[2,9]),([0,1,2,3,4,5,6,7,9,10],[]),([11,5,10,0,1,2,3,4,5,6,7,9,10],[5,11]),([0,1,2,3,4,5,6,7,8,9,10,11,12],[]),([13,8,12,0,1,2,3,4,5,6,7,8,9,10,11,12],[8,13])])
def record_event.B1:List Nat:=[0,1,3,0,8,31,0,64,255,223,1023,2047,4095,8191,16383]
theorem record_event.tab1:rtab .any (opsOf Tryz.f70 1) = record_event.T1:=by kernel_rfl
theorem record_event.bits1:waitsOk record_event.T1.2 record_event.B1 = true:=by kernel_rfl
theorem record_event.calls (a0_0:Int) (a0_1:Int) (a0_2:Int) (A0_3:Option Addr) (c0_3:Nat) (l0_3:List Int) (A0_4:Option Addr) (c0_4:Nat) (l0_4:List ByteArray) (A0_5:Option Addr) (c0_5:Nat) (l0_5:List ByteArray) (r1:Int) (r2:Int) (r3:Int) (r4:List Int) (r5:List ByteArray) (r6:List ByteArray) (w:World) (hr0_3:Kd.C (Kd.int .i64) w A0_3 l0_3.length l0_3) (hc0_3:l0_3.length≤c0_3) (hr0_4:Kd.C Kd.string w A0_4 l0_4.length l0_4) (hc0_4:l0_4.length≤c0_4) (hr0_5:Kd.C Kd.string w A0_5 l0_5.length l0_5) (hc0_5:l0_5.length≤c0_5) (h:record_event.f a0_0 a0_1 a0_2 l0_3 l0_4 l0_5 = some (r1,r2,r3,r4,r5,r6)) :
  Calls Tryz.prog 70 #[.agg #[.int .i64 a0_0,.int .i64 a0_1,.int .i64 a0_2,.slice A0_3 l0_3.length c0_3,.slice A0_4 l0_4.length c0_4,.slice A0_5 l0_5.length c0_5]] w fun e w'=>∃ v3_ v4_ v5_:Value,e = .returned (.agg #[.int .i64 r1,.int .i64 r2,.int .i64 r3,v3_,v4_,v5_])∧Kd.R (Kd.int .i64) 3 w' w.heap.size (fun _=>True) v3_ r4∧Kd.R Kd.string 65 w' w.heap.size (fun _=>True) v4_ r5∧Kd.R Kd.string 9 w' w.heap.size (fun _=>True) v5_ r6∧Below w.heap.size w w':=by
 have hu26:=Tryz.underlying26
 have HR0_3:=Aside0.mk hr0_3
 have HC0_3:=Aside0.mk hc0_3
 clear hr0_3 hc0_3
 have HR0_4:=Aside0.mk hr0_4
 have HC0_4:=Aside0.mk hc0_4
 clear hr0_4 hc0_4
 have HR0_5:=Aside0.mk hr0_5
 have HC0_5:=Aside0.mk hc0_5
 clear hr0_5 hc0_5
 have HB:=Aside0.mk (Below.refl w.heap.size w)
 have H:=h;clear h;unfold record_event.f at H
 obtain ⟨t342,A2,H⟩:=bn_ H
 obtain ⟨t345,A3,H⟩:=bn_ H
 obtain ⟨t348,A4,H⟩:=bn_ H
 simp only [Option.some.injEq,Prod.mk.injEq] at H
 obtain ⟨rfl,rfl,rfl,rfl,rfl,rfl⟩:=H
 go_enter Tryz.func70,Tryz.ntmps70
 try go_wp2_with (first|((with_reducible refine gate_dst (N:=1) rfl ?_);refine bv_ #[.int .i64 a0_0,.int .i64 a0_1,.int .i64 a0_2,.slice A0_3 l0_3.length c0_3,.slice A0_4 l0_4.length c0_4,.slice A0_5 l0_5.length c0_5] 26 ?_;clear HB;intro gb340 hg w5 BK340 GE340 hb HB;clear hb hg)|((with_reducible refine gate_dst (N:=2) rfl ?_);refine bv_ #[.int .i64 0,.int .i64 0,.int .i64 0,.slice none 0 0,.slice none 0 0,.slice none 0 0] 26 ?_;clear HB;intro gb341 hg w6 BK341 GE341 hb HB;have x_:=ol_ BK340 hg hb;clear BK340;obtain ⟨BK340,NB340_341,NB341_340⟩:=x_;clear hb hg))
 replace BK340:=dr_ BK340
 replace BK341:=dr_ BK341
 replace HB:=db_ HB
 refine start_ (n:=15) (S:=fun w'=>w'.cell? ⟨gb340,0,none⟩ = some (.int .i64 a0_0)∧w'.cell? ⟨gb340,1,none⟩ = some (.int .i64 a0_1)∧w'.cell? ⟨gb340,2,none⟩ = some (.int .i64 a0_2)∧w'.cell? ⟨gb340,3,none⟩ = some (.slice A0_3 l0_3.length c0_3)∧w'.cell? ⟨gb340,4,none⟩ = some (.slice A0_4 l0_4.length c0_4)∧w'.cell? ⟨gb340,5,none⟩ = some (.slice A0_5 l0_5.length c0_5)) (ds:=[10,12,14]) #[false,false,false,false,false,false,false,false,false,false,false,false,false,false,false] kr_ rfl rfl hc_ (fun hHeld=>?_);refine with_tabW record_event.tab1 record_event.bits1 (fun HT_ HW_=>?_)
 generalize w6.drew = w7 at BK340 BK341 HB hHeld ⊢
 refine pu_ 0 (some 3) #[true,false,false,false,false,false,false,false,false,false,false,false,false,false,false] ?_
 refine pu_ 3 (some 6) #[true,false,false,true,false,false,false,false,false,false,false,false,false,false,false] ?_
 refine pu_ 6 (some 9) #[true,false,false,true,false,false,true,false,false,false,false,false,false,false,false] ?_
 refine tk_ 1 (some 4) #[true,true,false,true,false,false,true,false,false,false,false,false,false,false,false] hHeld ?_
 refine tk_ 4 (some 7) #[true,true,false,true,true,false,true,false,false,false,false,false,false,false,false] hHeld ?_
 refine tk_ 7 (some 10) #[true,true,false,true,true,false,true,true,false,false,false,false,false,false,false] hHeld ?_
 refine oc_ 2 (some 5) #[true,true,true,true,true,false,true,true,false,false,false,false,false,false,false] Tryz.func81 #[.slice A0_3 l0_3.length c0_3] (fun K hK=>?_)
 with_reducible refine (slices_Clone_int_int.calls _ _ l0_3 t342 _ ?side1 ?side2 A2.out).mono ?_
 (case side1=>exact cx_ (Kd.C_below HR0_3.out HB.out))
 (case side2=>exact HC0_3.out)
 rintro e w8 ⟨v343,rfl,ho0,hb⟩
 refine ⟨_,rfl,?_⟩
 have HO344:=Aside0.mk (Kd.R_lower ho0 (below_size bx_))
 replace BK340:=bb_ BK340 hb
 replace BK341:=bb_ BK341 hb
 replace HB:=bs_ hb
 (try clear hb)
 (try clear ho0)
 refine hk_ hK (fun hHeld=>?_);clear hK K
 refine pu_ 9 (some 12) #[true,true,true,true,true,false,true,true,false,true,false,false,false,false,false] ?_
 refine oc_ 5 (some 8) #[true,true,true,true,true,true,true,true,false,true,false,false,false,false,false] Tryz.func82 #[.slice A0_4 l0_4.length c0_4] (fun K hK=>?_)
 with_reducible refine (api_Rat_82.calls _ _ l0_4 t345 _ ?side1 ?side2 A3.out).mono ?_
 (case side1=>exact cx_ (Kd.C_below HR0_4.out HB.out))
 (case side2=>exact HC0_4.out)
 rintro e w9 ⟨v346,rfl,ho0,hb⟩
 refine ⟨_,rfl,?_⟩
 have HO347:=Aside0.mk (Kd.R_lower ho0 (below_size bx_))
 replace HO344:=rb_ HO344 hb
 replace BK340:=bb_ BK340 hb
 replace BK341:=bb_ BK341 hb
 replace HB:=bs_ hb
 (try clear hb)
 (try clear ho0)
 refine hk_ hK (fun hHeld=>?_);clear hK K
 refine oc_ 8 (some 11) #[true,true,true,true,true,true,true,true,true,true,false,false,false,false,false] Tryz.func83 #[.slice A0_5 l0_5.length c0_5] (fun K hK=>?_)
 with_reducible refine (slices_Clone_string_string.calls _ _ l0_5 t348 _ ?side1 ?side2 A4.out).mono ?_
 (case side1=>exact cx_ (Kd.C_below HR0_5.out HB.out))
 (case side2=>exact HC0_5.out)
 rintro e w10 ⟨v349,rfl,ho0,hb⟩
 refine ⟨_,rfl,?_⟩
 have HO350:=Aside0.mk (Kd.R_lower ho0 (below_size bx_))
 replace HO344:=rb_ HO344 hb
 replace HO347:=rb_ HO347 hb
 replace BK340:=bb_ BK340 hb
 replace BK341:=bb_ BK341 hb
 replace HB:=bs_ hb
 (try clear hb)
 (try clear ho0)
 obtain ⟨Ao11,co11,eo11⟩:=Kd.R_slice HO344.out
 (first|subst eo11|(injection eo11 with f1_ f2_ f3_;have f4_:=f1_.symm;have f5_:=f3_.symm;clear f1_ f2_ f3_;subst f4_;subst f5_))
 obtain ⟨Ao13,co13,eo13⟩:=Kd.R_slice HO347.out
 (first|subst eo13|(injection eo13 with f1_ f2_ f3_;have f4_:=f1_.symm;have f5_:=f3_.symm;clear f1_ f2_ f3_;subst f4_;subst f5_))
 obtain ⟨Ao15,co15,eo15⟩:=Kd.R_slice HO350.out
 (first|subst eo15|(injection eo15 with f1_ f2_ f3_;have f4_:=f1_.symm;have f5_:=f3_.symm;clear f1_ f2_ f3_;subst f4_;subst f5_))
 refine hk_ hK (fun hHeld=>?_);clear hK K
 refine last_ (i:=10) (N:=none) #[true,true,true,true,true,true,true,true,true,true,true,false,false,false,false] rfl rfl (one_of HT_.out kr_) de_ (fun K hK=>?_)
 have hs12:w10.cell? ⟨gb340,3,none⟩ = some (.slice A0_3 l0_3.length c0_3):=(blk_cell BK340.out 3).trans rfl
 have hfs12:=blk_frozen BK340.out 3
 have hns12_1:=NB341_340.out
 have hms12_1:=NB340_341.out
 refine skip_ (w1:=?_) (by rfl) rfl ?_ ?_
 rotate_left
 ·go_simp
  rfl
 refine hK.out _ _ ?_
 clear hK K
 refine pu_ 11 (some 13) #[true,true,true,true,true,true,true,true,true,true,true,true,false,false,false] ?_
 refine last_ (i:=12) (N:=none) #[true,true,true,true,true,true,true,true,true,true,true,true,true,false,false] rfl rfl (one_of HT_.out kr_) de_ (fun K hK=>?_)
 have hs14:w10.cell? ⟨gb340,4,none⟩ = some (.slice A0_4 l0_4.length c0_4):=(blk_cell BK340.out 4).trans rfl
 have hfs14:=blk_frozen BK340.out 4
 have hns14_1:=NB341_340.out
 have hms14_1:=NB340_341.out
 refine skip_ (w1:=?_) (by rfl) rfl ?_ ?_
 rotate_left
 ·go_simp
  rfl
 refine hK.out _ _ ?_
 clear hK K
 refine pu_ 13 (some 14) #[true,true,true,true,true,true,true,true,true,true,true,true,true,true,false] ?_
 refine last_ (i:=14) (N:=none) #[true,true,true,true,true,true,true,true,true,true,true,true,true,true,true] rfl rfl (one_of HT_.out kr_) de_ (fun K hK=>?_)
 have hs16:w10.cell? ⟨gb340,5,none⟩ = some (.slice A0_5 l0_5.length c0_5):=(blk_cell BK340.out 5).trans rfl
 have hfs16:=blk_frozen BK340.out 5
 have hns16_1:=NB341_340.out
 have hms16_1:=NB340_341.out
 refine skip_ (w1:=?_) (by rfl) rfl ?_ ?_
 rotate_left
 ·go_simp
  rfl
 refine hK.out _ _ ?_
 clear hK K
 refine done_ (done_of HT_.out kr_) ?_
 have hnb17:=NB340_341.out
 have hnc17:=NB341_340.out
 obtain ⟨hcz18_0,hcz18_1,hcz18_2,hcz18_3,hcz18_4,hcz18_5,hfz18_0,hfz18_1,hfz18_2,hfz18_3,hfz18_4,hfz18_5⟩:=c6_ BK340
 obtain ⟨hcz19_0,hcz19_1,hcz19_2,hcz19_3,hcz19_4,hcz19_5,hfz19_0,hfz19_1,hfz19_2,hfz19_3,hfz19_4,hfz19_5⟩:=c6_ BK341
 try go_wp2
 refine bodyPost_ret (results_cell_row rfl _ _ gb341 26 #[.int .i64 a0_0,.int .i64 a0_1,.int .i64 a0_2,.slice Ao11 t342.length co11,.slice Ao13 t345.length co13,.slice Ao15 t348.length co15] (0,0) _ rfl bk_ Tryz.underlying26 rfl kr_) rfl ?_
 exact ⟨_,_,_,rf_,by (with_reducible repeat (first|apply Kd.R_alloc|apply Kd.R_drewN|apply Kd.R_drew));exact Kd.R_mono (Kd.R_far (p:=⟨gb341,5,none⟩) (Kd.R_far (p:=⟨gb341,4,none⟩) (Kd.R_far (p:=⟨gb341,3,none⟩) (Kd.R_far (p:=⟨gb341,2,none⟩) (Kd.R_far (p:=⟨gb341,1,none⟩) (Kd.R_far (p:=⟨gb341,0,none⟩) (Kd.R_far (p:=⟨gb340,5,none⟩) (Kd.R_far (p:=⟨gb340,4,none⟩) (Kd.R_far (p:=⟨gb340,3,none⟩) (Kd.R_types (Kd.R_types HO344.out BK340.out de_) BK341.out de_) (fun _ hk=>hk.1.2) (.slice Ao11 t342.length co11)) (fun _ hk=>hk.1.2) (.slice Ao13 t345.length co13)) (fun _ hk=>hk.1.2) (.slice Ao15 t348.length co15)) (fun _ hk=>hk.2) (.int .i64 a0_0)) (fun _ hk=>hk.2) (.int .i64 a0_1)) (fun _ hk=>hk.2) (.int .i64 a0_2)) (fun _ hk=>hk.2) (.slice Ao11 t342.length co11)) (fun _ hk=>hk.2) (.slice Ao13 t345.length co13)) (fun _ hk=>hk.2) (.slice Ao15 t348.length co15)) (fun _ hk=>trivial),by (with_reducible repeat (first|apply Kd.R_alloc|apply Kd.R_drewN|apply Kd.R_drew));exact Kd.R_mono (Kd.R_far (p:=⟨gb341,5,none⟩) (Kd.R_far (p:=⟨gb341,4,none⟩) (Kd.R_far (p:=⟨gb341,3,none⟩) (Kd.R_far (p:=⟨gb341,2,none⟩) (Kd.R_far (p:=⟨gb341,1,none⟩) (Kd.R_far (p:=⟨gb341,0,none⟩) (Kd.R_far (p:=⟨gb340,5,none⟩) (Kd.R_far (p:=⟨gb340,4,none⟩) (Kd.R_far (p:=⟨gb340,3,none⟩) (Kd.R_types (Kd.R_types HO347.out BK340.out de_) BK341.out de_) (fun _ hk=>hk.1.2) (.slice Ao11 t342.length co11)) (fun _ hk=>hk.1.2) (.slice Ao13 t345.length co13)) (fun _ hk=>hk.1.2) (.slice Ao15 t348.length co15)) (fun _ hk=>hk.2) (.int .i64 a0_0)) (fun _ hk=>hk.2) (.int .i64 a0_1)) (fun _ hk=>hk.2) (.int .i64 a0_2)) (fun _ hk=>hk.2) (.slice Ao11 t342.length co11)) (fun _ hk=>hk.2) (.slice Ao13 t345.length co13)) (fun _ hk=>hk.2) (.slice Ao15 t348.length co15)) (fun _ hk=>trivial),by (with_reducible repeat (first|apply Kd.R_alloc|apply Kd.R_drewN|apply Kd.R_drew));exact Kd.R_mono (Kd.R_far (p:=⟨gb341,5,none⟩) (Kd.R_far (p:=⟨gb341,4,none⟩) (Kd.R_far (p:=⟨gb341,3,none⟩) (Kd.R_far (p:=⟨gb341,2,none⟩) (Kd.R_far (p:=⟨gb341,1,none⟩) (Kd.R_far (p:=⟨gb341,0,none⟩) (Kd.R_far (p:=⟨gb340,5,none⟩) (Kd.R_far (p:=⟨gb340,4,none⟩) (Kd.R_far (p:=⟨gb340,3,none⟩) (Kd.R_types (Kd.R_types HO350.out BK340.out de_) BK341.out de_) (fun _ hk=>hk.1.2) (.slice Ao11 t342.length co11)) (fun _ hk=>hk.1.2) (.slice Ao13 t345.length co13)) (fun _ hk=>hk.1.2) (.slice Ao15 t348.length co15)) (fun _ hk=>hk.2) (.int .i64 a0_0)) (fun _ hk=>hk.2) (.int .i64 a0_1)) (fun _ hk=>hk.2) (.int .i64 a0_2)) (fun _ hk=>hk.2) (.slice Ao11 t342.length co11)) (fun _ hk=>hk.2) (.slice Ao13 t345.length co13)) (fun _ hk=>hk.2) (.slice Ao15 t348.length co15)) (fun _ hk=>trivial),bx_⟩
end Go.Proofs.YtcmbggahndfnnaaGreatDoor.Pr
namespace Go.Proofs.YtcmbggahndfnnaaGreatDoor.Pr
open Go.RowKit Go.Proofs.YtcmbggahndfnnaaGreatDoorW.PrintWords Go.Proofs.YtcmbggahndfnnaaGreatDoorW.PrintLast Go.Proofs.YtcmbggahndfnnaaGreatDoorW.PrintMore
attribute [local go_sem] max2_int min2_int max_two min_two max_three min_three max_four min_four
set_option maxHeartbeats 8000000
set_option maxRecDepth 100000
set_option linter.unusedVariables false
set_option linter.unusedSimpArgs false
def record_Append.l0:Nat→List (S52)→ByteArray→List (S52)→List (S52)→Int→Int→Int→Int→Int→List Int→List ByteArray→List ByteArray→Option ((List (S52)) × Int)
 | 0,_,_,_,_,_,_,_,_,_,_,_,_=>none
 | k + 1,x0,x8,x10,x32,x33,x34,x352000,x352001,x352002,x352003,x352004,x352005=>if x34 < x33 then (if 0≤x34 then (if x34 < (x32.length:Int) then ((record_event.f ((rd_T52 x32 x34).f0.f0) ((rd_T52 x32 x34).f0.f1) ((rd_T52 x32 x34).f0.f2) ((rd_T52 x32 x34).f0.f3) ((rd_T52 x32 x34).f0.f4) ((rd_T52 x32 x34).f0.f5)).bind fun bt358=>(if x10.length < 1256584717458 then (record_Append.l0 k x0 x8 (x10 ++ [(⟨(⟨bt358.1,bt358.2.1,bt358.2.2.1,bt358.2.2.2.1,bt358.2.2.2.2.1,bt358.2.2.2.2.2⟩:S26),(rd_T52 x32 x34).f1⟩:S52)]) x32 x33 (wrap64 (x34 + 1)) x352000 x352001 x352002 x352003 x352004 x352005) else (none))) else (none)) else (none)) else ((record_event.f x352000 x352001 x352002 x352003 x352004 x352005).bind fun bt373=>((record_seal.f x0 x8).bind fun t385=>(if x10.length < 1256584717458 then (some ((x10 ++ [(⟨(⟨bt373.1,bt373.2.1,bt373.2.2.1,bt373.2.2.2.1,bt373.2.2.2.2.1,bt373.2.2.2.2.2⟩:S26),t385⟩:S52)]),0)) else (none))))
def record_Append.f (k:Nat) (l0:List (S52)) (a1_0:Int) (a1_1:Int) (a1_2:Int) (l1_3:List Int) (l1_4:List ByteArray) (l1_5:List ByteArray):Option ((List (S52)) × Int):=(record_Check.f k l0).bind fun bt352=>(if bt352.2 = 0 then ((record_fits.f k l0 a1_0 a1_1 a1_2 l1_3 l1_4 l1_5).bind fun bt354=>(if bt354.2 = 0 then (if (l0.length:Int) = 1024 then (some (([]:List (S52)),12)) else (record_Append.l0 k l0 bt354.1 ([]:List (S52)) l0 (l0.length:Int) 0 a1_0 a1_1 a1_2 l1_3 l1_4 l1_5)) else (some (([]:List (S52)),bt354.2)))) else (some (([]:List (S52)),1)))
theorem record_Append.mono_l:∀ k,(∀ y0 y1 y2 y3 y4 y5 y6 y7 y8 y9 y10 y11,LeO (record_Append.l0 k y0 y1 y2 y3 y4 y5 y6 y7 y8 y9 y10 y11) (record_Append.l0 (k + 1) y0 y1 y2 y3 y4 y5 y6 y7 y8 y9 y10 y11))
 | 0=>fun _ _ _ _ _ _ _ _ _ _ _ _ r h=>by simp [record_Append.l0] at h
 | k + 1=>by
  have ih0:=record_Append.mono_l k
  ·intro y0 y1 y2 y3 y4 y5 y6 y7 y8 y9 y10 y11
   unfold record_Append.l0
   repeat' first
   | (with_reducible exact ih0 _ _ _ _ _ _ _ _ _ _ _ _)
   | (with_reducible exact record_Check.mono _ _)
   | (with_reducible exact record_fits.mono _ _ _ _ _ _ _ _)
   | (with_reducible exact LeO.refl _)
   | (with_reducible exact LeO.none _)
   | (with_reducible refine LeO.ite ?_ ?_)
   | (with_reducible refine LeO.bind ?_ (fun _=>?_))
   | exact ih0 _ _ _ _ _ _ _ _ _ _ _ _
   | exact record_Check.mono _ _
   | exact record_fits.mono _ _ _ _ _ _ _ _
   | exact LeO.none _
   | refine LeO.ite ?_ ?_
   | refine LeO.bind ?_ (fun _=>?_)
theorem record_Append.mono:∀ a0 a1 a2 a3 a4 a5 a6 k,LeO (record_Append.f k a0 a1 a2 a3 a4 a5 a6) (record_Append.f (k + 1) a0 a1 a2 a3 a4 a5 a6):=by
 intro a0 a1 a2 a3 a4 a5 a6 k
 have ih0:=record_Append.mono_l k
 unfold record_Append.f
 repeat' first
   | (with_reducible exact ih0 _ _ _ _ _ _ _ _ _ _ _ _)
   | (with_reducible exact record_Check.mono _ _)
   | (with_reducible exact record_fits.mono _ _ _ _ _ _ _ _)
   | (with_reducible exact LeO.refl _)
   | (with_reducible exact LeO.none _)
   | (with_reducible refine LeO.ite ?_ ?_)
   | (with_reducible refine LeO.bind ?_ (fun _=>?_))
   | exact ih0 _ _ _ _ _ _ _ _ _ _ _ _
   | exact record_Check.mono _ _
   | exact record_fits.mono _ _ _ _ _ _ _ _
   | exact LeO.none _
   | refine LeO.ite ?_ ?_
   | refine LeO.bind ?_ (fun _=>?_)
def record_Append.T13:Bool × List (List Nat × List Nat):=(true,[([],[]),([],[]),([1],[1]),([2],[2]),([],[]),([4],[4]),([3,5],[3,5]),([6],[6]),([0,7,3],[0,7]),([8,8,0,1,2,3,4,5,6,7,8],[0,8])])
def record_Append.B13:List Nat:=[0,0,2,6,0,16,62,126,255,511]
theorem record_Append.tab13:rtab .any (opsOf Tryz.f31 13) = record_Append.T13:=by kernel_rfl
theorem record_Append.bits13:waitsOk record_Append.T13.2 record_Append.B13 = true:=by kernel_rfl
theorem record_Append.calls (k:Nat) (A0:Option Addr) (c0:Nat) (l0:List (S52)) (a1_0:Int) (a1_1:Int) (a1_2:Int) (A1_3:Option Addr) (c1_3:Nat) (l1_3:List Int) (A1_4:Option Addr) (c1_4:Nat) (l1_4:List ByteArray) (A1_5:Option Addr) (c1_5:Nat) (l1_5:List ByteArray) (r1:List (S52)) (r2:Int) (w:World) (hr0:Kd.C k52 w A0 l0.length l0) (hc0:l0.length≤c0) (hr1_3:Kd.C (Kd.int .i64) w A1_3 l1_3.length l1_3) (hc1_3:l1_3.length≤c1_3) (hr1_4:Kd.C Kd.string w A1_4 l1_4.length l1_4) (hc1_4:l1_4.length≤c1_4) (hr1_5:Kd.C Kd.string w A1_5 l1_5.length l1_5) (hc1_5:l1_5.length≤c1_5) (hL:LaidW w) (h:record_Append.f k l0 a1_0 a1_1 a1_2 l1_3 l1_4 l1_5 = some (r1,r2)) :
  Calls Tryz.prog 31 #[.slice A0 l0.length c0,.agg #[.int .i64 a1_0,.int .i64 a1_1,.int .i64 a1_2,.slice A1_3 l1_3.length c1_3,.slice A1_4 l1_4.length c1_4,.slice A1_5 l1_5.length c1_5]] w fun e w'=>∃ v0_:Value,e = .returned (.tuple #[v0_,.int .i64 r2])∧Kd.S k52 52 w' w.heap.size (fun _=>True) v0_ r1∧Below w.heap.size w w':=by
 have hu26:=Tryz.underlying26
 have hu52:=Tryz.underlying52
 have HR0:=Aside0.mk hr0
 have HC0:=Aside0.mk hc0
 clear hr0 hc0
 have HR1_3:=Aside0.mk hr1_3
 have HC1_3:=Aside0.mk hc1_3
 clear hr1_3 hc1_3
 have HR1_4:=Aside0.mk hr1_4
 have HC1_4:=Aside0.mk hc1_4
 clear hr1_4 hc1_4
 have HR1_5:=Aside0.mk hr1_5
 have HC1_5:=Aside0.mk hc1_5
 clear hr1_5 hc1_5
 have HB:=Aside0.mk (Below.refl w.heap.size w)
 have HLW:=Aside0.mk hL
 clear hL
 have H:=h;clear h;unfold record_Append.f at H
 obtain ⟨⟨t352,t353⟩,A3,H⟩:=bn_ H
 dsimp only at H
 by_cases c4:t353 = 0
 ·rw [if_pos c4] at H
  have c4b0:(t353 == 0) = true:=beq_iff_eq.mpr c4
  have c4b1:(t353 != 0) = false:=bne_eq_false_iff_eq.mpr c4
  clear c4
  obtain ⟨⟨t354,t355⟩,A5,H⟩:=bn_ H
  dsimp only at H
  by_cases c6:t355 = 0
  ·rw [if_pos c6] at H
   have c6b0:(t355 == 0) = true:=beq_iff_eq.mpr c6
   have c6b1:(t355 != 0) = false:=bne_eq_false_iff_eq.mpr c6
   clear c6
   by_cases c7:(l0.length:Int) = 1024
   ·rw [if_pos c7] at H
    have c7b0:((l0.length:Int) == 1024) = true:=beq_iff_eq.mpr c7
    have c7b1:((l0.length:Int) != 1024) = false:=bne_eq_false_iff_eq.mpr c7
    clear c7
    simp only [Option.some.injEq,Prod.mk.injEq] at H
    obtain ⟨rfl,rfl⟩:=H
    go_enter Tryz.func31,Tryz.ntmps31
    go_wp2_with (first|((with_reducible refine gate_dst (N:=3) rfl ?_);refine box_event ?hg (N:=3) ?hd (cs:=#[.int .i64 a1_0,.int .i64 a1_1,.int .i64 a1_2,.slice A1_3 l1_3.length c1_3,.slice A1_4 l1_4.length c1_4,.slice A1_5 l1_5.length c1_5]) (t:=26) ?hr ?_;(case hd=>rfl);(case hg=>rfl);(case hr=>first|(go_simp;done)|(go_simp;rfl));intro gb351 hg w8 hbox hb;have n0_:=Aside0.mk (below_step bx_ hb);have n1_:=Aside0.mk (hbox);have n2_:=Aside0.mk ((by rw [hg];exact (below_size bx_):w.heap.size≤gb351));have n3_:=Aside0.mk ((by rw [hg];exact (below_size bx_):w.heap.size≤gb351));clear HB;have HB:=n0_;have BK351:=n1_;have GE351:=n2_;have GE351:=n3_;clear n0_ n1_ n2_ n3_;clear hb hbox hg)|((with_reducible refine gate_callee (f:=27) rfl ?_);refine gm_ (some 15) Tryz.func27 #[.slice A0 l0.length c0] ?_;(with_reducible refine (record_Check.calls k _ _ l0 t352 t353 _ ?side1 ?side2 ?side3 A3.out).mono ?_);(case side1=>exact cx_ (Kd.C_below HR0.out HB.out));(case side2=>exact HC0.out);(case side3=>exact HLW.out.below bx_);rintro e w9 ⟨rfl,hb⟩;refine ⟨_,rfl,?_⟩;have n0_:=Aside0.mk (blk_below (g:=gb351) (o:=.cells #[.int .i64 a1_0,.int .i64 a1_1,.int .i64 a1_2,.slice A1_3 l1_3.length c1_3,.slice A1_4 l1_4.length c1_4,.slice A1_5 l1_5.length c1_5] 26 (0,0)) (by (with_reducible repeat (first|refine blk_drewN ?_ _|refine blk_drew ?_|refine blk_alloc ?_ _));exact BK351.out) hb);have n1_:=Aside0.mk (below_step bx_ hb);clear BK351;clear HB;have BK351:=n0_;have HB:=n1_;clear n0_ n1_;(try clear hb);obtain ⟨hcz10_0,hcz10_1,hcz10_2,hcz10_3,hcz10_4,hcz10_5,hfz10_0,hfz10_1,hfz10_2,hfz10_3,hfz10_4,hfz10_5⟩:=c6_ BK351)|((with_reducible refine gate_callee (f:=60) rfl ?_);refine gm_ (some 23) Tryz.func60 #[.slice A0 l0.length c0,.agg #[.int .i64 a1_0,.int .i64 a1_1,.int .i64 a1_2,.slice A1_3 l1_3.length c1_3,.slice A1_4 l1_4.length c1_4,.slice A1_5 l1_5.length c1_5]] ?_;(with_reducible refine (record_fits.calls k _ _ l0 a1_0 a1_1 a1_2 _ _ l1_3 _ _ l1_4 _ _ l1_5 t354 t355 _ ?side1 ?side2 ?side3 ?side4 ?side5 ?side6 ?side7 ?side8 ?side9 A5.out).mono ?_);(case side1=>exact cx_ (Kd.C_below HR0.out HB.out));(case side2=>exact HC0.out);(case side3=>exact cx_ (Kd.C_below HR1_3.out HB.out));(case side4=>exact HC1_3.out);(case side5=>exact cx_ (Kd.C_below HR1_4.out HB.out));(case side6=>exact HC1_4.out);(case side7=>exact cx_ (Kd.C_below HR1_5.out HB.out));(case side8=>exact HC1_5.out);(case side9=>exact HLW.out.below bx_);rintro e w11 ⟨rfl,hb⟩;refine ⟨_,rfl,?_⟩;have n0_:=Aside0.mk (blk_below (g:=gb351) (o:=.cells #[.int .i64 a1_0,.int .i64 a1_1,.int .i64 a1_2,.slice A1_3 l1_3.length c1_3,.slice A1_4 l1_4.length c1_4,.slice A1_5 l1_5.length c1_5] 26 (0,0)) (by (with_reducible repeat (first|refine blk_drewN ?_ _|refine blk_drew ?_|refine blk_alloc ?_ _));exact BK351.out) hb);have n1_:=Aside0.mk (below_step bx_ hb);clear BK351;clear HB;have BK351:=n0_;have HB:=n1_;clear n0_ n1_;(try clear hb)))
    go_ret2
    exact ⟨_,rf_,by first|exact Kd.S_nil _ _ _ _ _|exact Kd.N_nil _ _ _ _ _|exact Kd.V_nil _ _ _ _ _|exact Kd.Q_nil _ _ _ _ _|exact Kd.R_nil _ _ _ _ _,bx_⟩
   ·rw [if_neg c7] at H
    have c7b0:((l0.length:Int) == 1024) = false:=beq_eq_false_iff_ne.mpr c7
    have c7b1:((l0.length:Int) != 1024) = true:=bne_iff_ne.mpr c7
    have H':=Aside0.mk H
    clear H
    go_enter Tryz.func31,Tryz.ntmps31
    go_wp2_with (first|((with_reducible refine gate_dst (N:=3) rfl ?_);refine box_event ?hg (N:=3) ?hd (cs:=#[.int .i64 a1_0,.int .i64 a1_1,.int .i64 a1_2,.slice A1_3 l1_3.length c1_3,.slice A1_4 l1_4.length c1_4,.slice A1_5 l1_5.length c1_5]) (t:=26) ?hr ?_;(case hd=>rfl);(case hg=>rfl);(case hr=>first|(go_simp;done)|(go_simp;rfl));intro gb351 hg w12 hbox hb;have n0_:=Aside0.mk (below_step bx_ hb);have n1_:=Aside0.mk (hbox);have n2_:=Aside0.mk ((by rw [hg];exact (below_size bx_):w.heap.size≤gb351));have n3_:=Aside0.mk ((by rw [hg];exact (below_size bx_):w.heap.size≤gb351));clear HB;have HB:=n0_;have BK351:=n1_;have GE351:=n2_;have GE351:=n3_;clear n0_ n1_ n2_ n3_;clear hb hbox hg)|((with_reducible refine gate_callee (f:=27) rfl ?_);refine gm_ (some 15) Tryz.func27 #[.slice A0 l0.length c0] ?_;(with_reducible refine (record_Check.calls k _ _ l0 t352 t353 _ ?side1 ?side2 ?side3 A3.out).mono ?_);(case side1=>exact cx_ (Kd.C_below HR0.out HB.out));(case side2=>exact HC0.out);(case side3=>exact HLW.out.below bx_);rintro e w13 ⟨rfl,hb⟩;refine ⟨_,rfl,?_⟩;have n0_:=Aside0.mk (blk_below (g:=gb351) (o:=.cells #[.int .i64 a1_0,.int .i64 a1_1,.int .i64 a1_2,.slice A1_3 l1_3.length c1_3,.slice A1_4 l1_4.length c1_4,.slice A1_5 l1_5.length c1_5] 26 (0,0)) (by (with_reducible repeat (first|refine blk_drewN ?_ _|refine blk_drew ?_|refine blk_alloc ?_ _));exact BK351.out) hb);have n1_:=Aside0.mk (below_step bx_ hb);clear BK351;clear HB;have BK351:=n0_;have HB:=n1_;clear n0_ n1_;(try clear hb);obtain ⟨hcz14_0,hcz14_1,hcz14_2,hcz14_3,hcz14_4,hcz14_5,hfz14_0,hfz14_1,hfz14_2,hfz14_3,hfz14_4,hfz14_5⟩:=c6_ BK351)|((with_reducible refine gate_callee (f:=60) rfl ?_);refine gm_ (some 23) Tryz.func60 #[.slice A0 l0.length c0,.agg #[.int .i64 a1_0,.int .i64 a1_1,.int .i64 a1_2,.slice A1_3 l1_3.length c1_3,.slice A1_4 l1_4.length c1_4,.slice A1_5 l1_5.length c1_5]] ?_;(with_reducible refine (record_fits.calls k _ _ l0 a1_0 a1_1 a1_2 _ _ l1_3 _ _ l1_4 _ _ l1_5 t354 t355 _ ?side1 ?side2 ?side3 ?side4 ?side5 ?side6 ?side7 ?side8 ?side9 A5.out).mono ?_);(case side1=>exact cx_ (Kd.C_below HR0.out HB.out));(case side2=>exact HC0.out);(case side3=>exact cx_ (Kd.C_below HR1_3.out HB.out));(case side4=>exact HC1_3.out);(case side5=>exact cx_ (Kd.C_below HR1_4.out HB.out));(case side6=>exact HC1_4.out);(case side7=>exact cx_ (Kd.C_below HR1_5.out HB.out));(case side8=>exact HC1_5.out);(case side9=>exact HLW.out.below bx_);rintro e w15 ⟨rfl,hb⟩;refine ⟨_,rfl,?_⟩;have n0_:=Aside0.mk (blk_below (g:=gb351) (o:=.cells #[.int .i64 a1_0,.int .i64 a1_1,.int .i64 a1_2,.slice A1_3 l1_3.length c1_3,.slice A1_4 l1_4.length c1_4,.slice A1_5 l1_5.length c1_5] 26 (0,0)) (by (with_reducible repeat (first|refine blk_drewN ?_ _|refine blk_drew ?_|refine blk_alloc ?_ _));exact BK351.out) hb);have n1_:=Aside0.mk (below_step bx_ hb);clear BK351;clear HB;have BK351:=n0_;have HB:=n1_;clear n0_ n1_;(try clear hb)))
    go_loopg [10,34] k (fun kq v10 v34 w'=>∃ (x10_1:List (S52)) (x34_1:Int),v34 = .int .i64 x34_1∧Aside0 (record_Append.l0 kq l0 t354 x10_1 l0 (l0.length:Int) x34_1 a1_0 a1_1 a1_2 l1_3 l1_4 l1_5 = some (r1,r2))∧Aside0 (kq≤k)∧Aside0 (Kd.S k52 52 w' w.heap.size (fun _=>True) v10 x10_1)∧Aside0 (w'.heap[gb351]? = some (.cells #[.int .i64 a1_0,.int .i64 a1_1,.int .i64 a1_2,(.slice A1_3 l1_3.length c1_3),(.slice A1_4 l1_4.length c1_4),(.slice A1_5 l1_5.length c1_5)] 26 (0,0)))∧Aside0 (Below w.heap.size w w'))
    case atStart=>exact ⟨(([]:List (S52))),(0),rg_,H',⟨Nat.le_refl _⟩,⟨by first|exact Kd.S_nil _ _ _ _ _|exact Kd.N_nil _ _ _ _ _|exact Kd.V_nil _ _ _ _ _|exact Kd.Q_nil _ _ _ _ _|exact Kd.R_nil _ _ _ _ _⟩,⟨by (with_reducible repeat (first|refine blk_drewN ?_ _|refine blk_drew ?_|refine blk_alloc ?_ _));exact BK351.out⟩,⟨bx_⟩⟩
    case round =>
     clear H'
     try clear c4
     try clear c4b0
     try clear c4b1
     try clear c6
     try clear c6b0
     try clear c6b1
     try clear c7
     try clear c7b0
     try clear c7b1
     try clear hcz14_0
     try clear hcz14_1
     try clear hcz14_2
     try clear hcz14_3
     try clear hcz14_4
     try clear hcz14_5
     try clear hfz14_0
     try clear hfz14_1
     try clear hfz14_2
     try clear hfz14_3
     try clear hfz14_4
     try clear hfz14_5
     obtain ⟨x10_1,x34_1,rfl,HA,HK1,HO_10,BK351,HB⟩:=hrel
     cases gk with
     | zero=>exact absurd HA.out (by simp [record_Append.l0])
     | succ k1 =>
      have H:=HA.out
      clear HA
      simp only [record_Append.l0] at H
      by_cases c16:x34_1 < (l0.length:Int)
      ·rw [if_pos c16] at H
       have c16b0:decide (x34_1 < (l0.length:Int)) = true:=decide_eq_true c16
       clear c16
       by_cases c17:0≤x34_1
       ·rw [if_pos c17] at H
        have c17b0:decide (0≤x34_1) = true:=decide_eq_true c17
        clear c17
        by_cases c18:x34_1 < (l0.length:Int)
        ·rw [if_pos c18] at H
         have c18b0:decide (x34_1 < (l0.length:Int)) = true:=decide_eq_true c18
         clear c18
         obtain ⟨⟨t358,t359,t360,t361,t364,t367⟩,A19,H⟩:=bn_ H
         dsimp only at H
         by_cases c20:x10_1.length < 1256584717458
         ·rw [if_pos c20] at H
          have LMc20:=Aside0.mk c20
          clear c20
          obtain ⟨y370,hy370⟩:∃ y_:List (S52),y_ = (x10_1 ++ [(⟨(⟨t358,t359,t360,t361,t364,t367⟩:S26),(rd_T52 l0 x34_1).f1⟩:S52)]):=⟨_,rfl⟩
          replace H:(record_Append.l0 k1 l0 t354 y370 l0 (l0.length:Int) (wrap64 (x34_1 + 1)) a1_0 a1_1 a1_2 l1_3 l1_4 l1_5) = some (r1,r2):=by first|(rw [hy370];with_reducible exact H)|(have H2_:=(Option.bind_some _ _).symm.trans H;rw [hy370];with_reducible exact H2_)|(have H2_:=(Option.bind_some _ _).symm.trans H;with_reducible exact H2_)|with_reducible exact H|(rw [hy370];exact H)|exact H
          have Ny370:=Aside0.mk hy370
          clear hy370
          have H':=Aside0.mk H
          clear H
          have p356:0≤(x34_1:Int):=da_
          have q356:x34_1 < (l0.length:Int):=da_
          obtain ⟨ad356,A356_3,c356_3,A356_4,c356_4,A356_5,c356_5,e356,hx356_0,hx356_1,hx356_2,hx356_3,hx356_4,hx356_5,hx356_6,hl356_3,hi356_3,hl356_4,hi356_4,hl356_5,hi356_5⟩:=at_T52 HR0.out x34_1 p356 q356
          cases e356
          replace hx356_0:=(HB.out.cell (World.block_lt_of_cell? w _ hx356_0)).trans hx356_0
          replace hx356_1:=(HB.out.cell (World.block_lt_of_cell? w _ hx356_1)).trans hx356_1
          replace hx356_2:=(HB.out.cell (World.block_lt_of_cell? w _ hx356_2)).trans hx356_2
          replace hx356_3:=(HB.out.cell (World.block_lt_of_cell? w _ hx356_3)).trans hx356_3
          replace hx356_4:=(HB.out.cell (World.block_lt_of_cell? w _ hx356_4)).trans hx356_4
          replace hx356_5:=(HB.out.cell (World.block_lt_of_cell? w _ hx356_5)).trans hx356_5
          replace hx356_6:=(HB.out.cell (World.block_lt_of_cell? w _ hx356_6)).trans hx356_6
          have HR356_3:=Aside0.mk hi356_3
          have HC356_3:=Aside0.mk hl356_3
          clear hi356_3 hl356_3
          have HR356_4:=Aside0.mk hi356_4
          have HC356_4:=Aside0.mk hl356_4
          clear hi356_4 hl356_4
          have HR356_5:=Aside0.mk hi356_5
          have HC356_5:=Aside0.mk hl356_5
          clear hi356_5 hl356_5
          replace p356:=eq_true p356
          replace q356:=eq_true q356
          try go_wp2_with (first|((with_reducible refine gate_dst (N:=12) rfl ?_);refine box_event ?hg (N:=12) ?hd (cs:=#[.int .i64 0,.int .i64 0,.int .i64 0,.slice none 0 0,.slice none 0 0,.slice none 0 0,.string (⟨#[]⟩:ByteArray)]) (t:=52) ?hr ?_;(case hd=>rfl);(case hg=>rfl);(case hr=>first|(go_simp;done)|(go_simp;rfl));intro gb357 hg w21 hbox hb;have n0_:=Aside0.mk (Kd.S_below (Kd.S_elderB (by (with_reducible repeat (first|apply Kd.S_alloc|apply Kd.S_drewN|apply Kd.S_drew));exact HO_10.out) gb357 (Nat.le_of_eq hg.symm)) hb);have n1_:=Aside0.mk (blk_below (g:=gb351) (o:=.cells #[.int .i64 a1_0,.int .i64 a1_1,.int .i64 a1_2,.slice A1_3 l1_3.length c1_3,.slice A1_4 l1_4.length c1_4,.slice A1_5 l1_5.length c1_5] 26 (0,0)) (by (with_reducible repeat (first|refine blk_drewN ?_ _|refine blk_drew ?_|refine blk_alloc ?_ _));exact BK351.out) hb);have n2_:=Aside0.mk (below_step bx_ hb);have n3_:=Aside0.mk (hbox);have n4_:=Aside0.mk ((by rw [hg];exact (below_size bx_):w.heap.size≤gb357));have n5_:=Aside0.mk ((by rw [hg];exact (below_size bx_):w.heap.size≤gb357));have n6_:=Aside0.mk ((by rw [hg];exact Nat.ne_of_lt (blk_lt (g:=gb351) (o:=.cells #[.int .i64 a1_0,.int .i64 a1_1,.int .i64 a1_2,.slice A1_3 l1_3.length c1_3,.slice A1_4 l1_4.length c1_4,.slice A1_5 l1_5.length c1_5] 26 (0,0)) (by (with_reducible repeat (first|refine blk_drewN ?_ _|refine blk_drew ?_|refine blk_alloc ?_ _));exact BK351.out)):gb351≠gb357));have n7_:=Aside0.mk ((by rw [hg];exact Nat.ne_of_gt (blk_lt (g:=gb351) (o:=.cells #[.int .i64 a1_0,.int .i64 a1_1,.int .i64 a1_2,.slice A1_3 l1_3.length c1_3,.slice A1_4 l1_4.length c1_4,.slice A1_5 l1_5.length c1_5] 26 (0,0)) (by (with_reducible repeat (first|refine blk_drewN ?_ _|refine blk_drew ?_|refine blk_alloc ?_ _));exact BK351.out)):gb357≠gb351));clear HO_10;clear BK351;clear HB;have HO_10:=n0_;have BK351:=n1_;have HB:=n2_;have BK357:=n3_;have GE357:=n4_;have GE357:=n5_;have NB351_357:=n6_;have NB357_351:=n7_;clear n0_ n1_ n2_ n3_ n4_ n5_ n6_ n7_;clear hb hbox hg;have hnb22:=NB357_351.out;have hnc22:=NB351_357.out;obtain ⟨hcz23_0,hcz23_1,hcz23_2,hcz23_3,hcz23_4,hcz23_5,hcz23_6,hfz23_0,hfz23_1,hfz23_2,hfz23_3,hfz23_4,hfz23_5,hfz23_6⟩:=c7_ BK357))
          have n0_:Aside0 (Kd.S k52 52 (((((((w21.setCell ⟨gb357,0,none⟩ (.int .i64 ((rd_T52 l0 x34_1).f0.f0))).setCell ⟨gb357,1,none⟩ (.int .i64 ((rd_T52 l0 x34_1).f0.f1))).setCell ⟨gb357,2,none⟩ (.int .i64 ((rd_T52 l0 x34_1).f0.f2))).setCell ⟨gb357,3,none⟩ (.slice A356_3 ((rd_T52 l0 x34_1).f0.f3).length c356_3)).setCell ⟨gb357,4,none⟩ (.slice A356_4 ((rd_T52 l0 x34_1).f0.f4).length c356_4)).setCell ⟨gb357,5,none⟩ (.slice A356_5 ((rd_T52 l0 x34_1).f0.f5).length c356_5)).setCell ⟨gb357,6,none⟩ (.string ((rd_T52 l0 x34_1).f1))) w.heap.size (fun k_=>k_≠gb357) u10 x10_1):=⟨by (with_reducible repeat (first|apply Kd.S_alloc|apply Kd.S_drewN|apply Kd.S_drew));exact Kd.S_mono (Kd.S_far (p:=⟨gb357,6,none⟩) (Kd.S_far (p:=⟨gb357,5,none⟩) (Kd.S_far (p:=⟨gb357,4,none⟩) (Kd.S_far (p:=⟨gb357,3,none⟩) (Kd.S_far (p:=⟨gb357,2,none⟩) (Kd.S_far (p:=⟨gb357,1,none⟩) (Kd.S_far (p:=⟨gb357,0,none⟩) (Kd.S_mono HO_10.out (fun k_ hk=>(⟨hk,hk.2⟩:_∧k_≠gb357))) (fun _ hk=>hk.2) (.int .i64 ((rd_T52 l0 x34_1).f0.f0))) (fun _ hk=>hk.2) (.int .i64 ((rd_T52 l0 x34_1).f0.f1))) (fun _ hk=>hk.2) (.int .i64 ((rd_T52 l0 x34_1).f0.f2))) (fun _ hk=>hk.2) (.slice A356_3 ((rd_T52 l0 x34_1).f0.f3).length c356_3)) (fun _ hk=>hk.2) (.slice A356_4 ((rd_T52 l0 x34_1).f0.f4).length c356_4)) (fun _ hk=>hk.2) (.slice A356_5 ((rd_T52 l0 x34_1).f0.f5).length c356_5)) (fun _ hk=>hk.2) (.string ((rd_T52 l0 x34_1).f1))) (fun _ hk=>hk.1.2)⟩
          have n1_:Aside0 ((((((((w21.setCell ⟨gb357,0,none⟩ (.int .i64 ((rd_T52 l0 x34_1).f0.f0))).setCell ⟨gb357,1,none⟩ (.int .i64 ((rd_T52 l0 x34_1).f0.f1))).setCell ⟨gb357,2,none⟩ (.int .i64 ((rd_T52 l0 x34_1).f0.f2))).setCell ⟨gb357,3,none⟩ (.slice A356_3 ((rd_T52 l0 x34_1).f0.f3).length c356_3)).setCell ⟨gb357,4,none⟩ (.slice A356_4 ((rd_T52 l0 x34_1).f0.f4).length c356_4)).setCell ⟨gb357,5,none⟩ (.slice A356_5 ((rd_T52 l0 x34_1).f0.f5).length c356_5)).setCell ⟨gb357,6,none⟩ (.string ((rd_T52 l0 x34_1).f1))).heap[gb351]? = some (.cells #[.int .i64 a1_0,.int .i64 a1_1,.int .i64 a1_2,.slice A1_3 l1_3.length c1_3,.slice A1_4 l1_4.length c1_4,.slice A1_5 l1_5.length c1_5] 26 (0,0))):=⟨by (with_reducible repeat (first|refine blk_drewN ?_ _|refine blk_drew ?_|refine blk_alloc ?_ _));refine blk_far ?_ NB351_357.out _;(with_reducible repeat (first|refine blk_drewN ?_ _|refine blk_drew ?_|refine blk_alloc ?_ _));refine blk_far ?_ NB351_357.out _;(with_reducible repeat (first|refine blk_drewN ?_ _|refine blk_drew ?_|refine blk_alloc ?_ _));refine blk_far ?_ NB351_357.out _;(with_reducible repeat (first|refine blk_drewN ?_ _|refine blk_drew ?_|refine blk_alloc ?_ _));refine blk_far ?_ NB351_357.out _;(with_reducible repeat (first|refine blk_drewN ?_ _|refine blk_drew ?_|refine blk_alloc ?_ _));refine blk_far ?_ NB351_357.out _;(with_reducible repeat (first|refine blk_drewN ?_ _|refine blk_drew ?_|refine blk_alloc ?_ _));refine blk_far ?_ NB351_357.out _;(with_reducible repeat (first|refine blk_drewN ?_ _|refine blk_drew ?_|refine blk_alloc ?_ _));refine blk_far ?_ NB351_357.out _;(with_reducible repeat (first|refine blk_drewN ?_ _|refine blk_drew ?_|refine blk_alloc ?_ _));exact BK351.out⟩
          have n2_:Aside0 ((((((((w21.setCell ⟨gb357,0,none⟩ (.int .i64 ((rd_T52 l0 x34_1).f0.f0))).setCell ⟨gb357,1,none⟩ (.int .i64 ((rd_T52 l0 x34_1).f0.f1))).setCell ⟨gb357,2,none⟩ (.int .i64 ((rd_T52 l0 x34_1).f0.f2))).setCell ⟨gb357,3,none⟩ (.slice A356_3 ((rd_T52 l0 x34_1).f0.f3).length c356_3)).setCell ⟨gb357,4,none⟩ (.slice A356_4 ((rd_T52 l0 x34_1).f0.f4).length c356_4)).setCell ⟨gb357,5,none⟩ (.slice A356_5 ((rd_T52 l0 x34_1).f0.f5).length c356_5)).setCell ⟨gb357,6,none⟩ (.string ((rd_T52 l0 x34_1).f1))).heap[gb357]? = some (.cells #[.int .i64 ((rd_T52 l0 x34_1).f0.f0),.int .i64 ((rd_T52 l0 x34_1).f0.f1),.int .i64 ((rd_T52 l0 x34_1).f0.f2),.slice A356_3 ((rd_T52 l0 x34_1).f0.f3).length c356_3,.slice A356_4 ((rd_T52 l0 x34_1).f0.f4).length c356_4,.slice A356_5 ((rd_T52 l0 x34_1).f0.f5).length c356_5,.string ((rd_T52 l0 x34_1).f1)] 52 (0,0))):=⟨by (with_reducible repeat (first|refine blk_drewN ?_ _|refine blk_drew ?_|refine blk_alloc ?_ _));refine blk_put (cs:=#[.int .i64 ((rd_T52 l0 x34_1).f0.f0),.int .i64 ((rd_T52 l0 x34_1).f0.f1),.int .i64 ((rd_T52 l0 x34_1).f0.f2),.slice A356_3 ((rd_T52 l0 x34_1).f0.f3).length c356_3,.slice A356_4 ((rd_T52 l0 x34_1).f0.f4).length c356_4,.slice A356_5 ((rd_T52 l0 x34_1).f0.f5).length c356_5,.string (⟨#[]⟩:ByteArray)]) ?_ 6 _ rfl;(with_reducible repeat (first|refine blk_drewN ?_ _|refine blk_drew ?_|refine blk_alloc ?_ _));refine blk_put (cs:=#[.int .i64 ((rd_T52 l0 x34_1).f0.f0),.int .i64 ((rd_T52 l0 x34_1).f0.f1),.int .i64 ((rd_T52 l0 x34_1).f0.f2),.slice A356_3 ((rd_T52 l0 x34_1).f0.f3).length c356_3,.slice A356_4 ((rd_T52 l0 x34_1).f0.f4).length c356_4,.slice none 0 0,.string (⟨#[]⟩:ByteArray)]) ?_ 5 _ rfl;(with_reducible repeat (first|refine blk_drewN ?_ _|refine blk_drew ?_|refine blk_alloc ?_ _));refine blk_put (cs:=#[.int .i64 ((rd_T52 l0 x34_1).f0.f0),.int .i64 ((rd_T52 l0 x34_1).f0.f1),.int .i64 ((rd_T52 l0 x34_1).f0.f2),.slice A356_3 ((rd_T52 l0 x34_1).f0.f3).length c356_3,.slice none 0 0,.slice none 0 0,.string (⟨#[]⟩:ByteArray)]) ?_ 4 _ rfl;(with_reducible repeat (first|refine blk_drewN ?_ _|refine blk_drew ?_|refine blk_alloc ?_ _));refine blk_put (cs:=#[.int .i64 ((rd_T52 l0 x34_1).f0.f0),.int .i64 ((rd_T52 l0 x34_1).f0.f1),.int .i64 ((rd_T52 l0 x34_1).f0.f2),.slice none 0 0,.slice none 0 0,.slice none 0 0,.string (⟨#[]⟩:ByteArray)]) ?_ 3 _ rfl;(with_reducible repeat (first|refine blk_drewN ?_ _|refine blk_drew ?_|refine blk_alloc ?_ _));refine blk_put (cs:=#[.int .i64 ((rd_T52 l0 x34_1).f0.f0),.int .i64 ((rd_T52 l0 x34_1).f0.f1),.int .i64 0,.slice none 0 0,.slice none 0 0,.slice none 0 0,.string (⟨#[]⟩:ByteArray)]) ?_ 2 _ rfl;(with_reducible repeat (first|refine blk_drewN ?_ _|refine blk_drew ?_|refine blk_alloc ?_ _));refine blk_put (cs:=#[.int .i64 ((rd_T52 l0 x34_1).f0.f0),.int .i64 0,.int .i64 0,.slice none 0 0,.slice none 0 0,.slice none 0 0,.string (⟨#[]⟩:ByteArray)]) ?_ 1 _ rfl;(with_reducible repeat (first|refine blk_drewN ?_ _|refine blk_drew ?_|refine blk_alloc ?_ _));refine blk_put (cs:=#[.int .i64 0,.int .i64 0,.int .i64 0,.slice none 0 0,.slice none 0 0,.slice none 0 0,.string (⟨#[]⟩:ByteArray)]) ?_ 0 _ rfl;(with_reducible repeat (first|refine blk_drewN ?_ _|refine blk_drew ?_|refine blk_alloc ?_ _));exact BK357.out⟩
          have n3_:Aside0 (Below w.heap.size w (((((((w21.setCell ⟨gb357,0,none⟩ (.int .i64 ((rd_T52 l0 x34_1).f0.f0))).setCell ⟨gb357,1,none⟩ (.int .i64 ((rd_T52 l0 x34_1).f0.f1))).setCell ⟨gb357,2,none⟩ (.int .i64 ((rd_T52 l0 x34_1).f0.f2))).setCell ⟨gb357,3,none⟩ (.slice A356_3 ((rd_T52 l0 x34_1).f0.f3).length c356_3)).setCell ⟨gb357,4,none⟩ (.slice A356_4 ((rd_T52 l0 x34_1).f0.f4).length c356_4)).setCell ⟨gb357,5,none⟩ (.slice A356_5 ((rd_T52 l0 x34_1).f0.f5).length c356_5)).setCell ⟨gb357,6,none⟩ (.string ((rd_T52 l0 x34_1).f1)))):=⟨bx_⟩
          (try clear HO_10)
          (try clear BK351)
          (try clear BK357)
          (try clear HB)
          generalize (((((((w21.setCell ⟨gb357,0,none⟩ (.int .i64 ((rd_T52 l0 x34_1).f0.f0))).setCell ⟨gb357,1,none⟩ (.int .i64 ((rd_T52 l0 x34_1).f0.f1))).setCell ⟨gb357,2,none⟩ (.int .i64 ((rd_T52 l0 x34_1).f0.f2))).setCell ⟨gb357,3,none⟩ (.slice A356_3 ((rd_T52 l0 x34_1).f0.f3).length c356_3)).setCell ⟨gb357,4,none⟩ (.slice A356_4 ((rd_T52 l0 x34_1).f0.f4).length c356_4)).setCell ⟨gb357,5,none⟩ (.slice A356_5 ((rd_T52 l0 x34_1).f0.f5).length c356_5)).setCell ⟨gb357,6,none⟩ (.string ((rd_T52 l0 x34_1).f1))) = w24 at n0_ n1_ n2_ n3_ ⊢
          have HO_10:=n0_
          have BK351:=n1_
          have BK357:=n2_
          have HB:=n3_
          clear n0_ n1_ n2_ n3_
          have n0_:=Aside0.mk (Kd.S_drew HO_10.out)
          have n1_:=Aside0.mk (blk_drew BK351.out)
          have n2_:=Aside0.mk (blk_drew BK357.out)
          have n3_:=Aside0.mk (below_drew1 HB.out)
          clear HO_10
          clear BK351
          clear BK357
          clear HB
          have HO_10:=n0_
          have BK351:=n1_
          have BK357:=n2_
          have HB:=n3_
          clear n0_ n1_ n2_ n3_
          refine start_ (n:=10) (S:=fun w'=>w'.cell? ⟨gb357,0,none⟩ = some (.int .i64 ((rd_T52 l0 x34_1).f0.f0))∧w'.cell? ⟨gb357,1,none⟩ = some (.int .i64 ((rd_T52 l0 x34_1).f0.f1))∧w'.cell? ⟨gb357,2,none⟩ = some (.int .i64 ((rd_T52 l0 x34_1).f0.f2))∧w'.cell? ⟨gb357,3,none⟩ = some (.slice A356_3 ((rd_T52 l0 x34_1).f0.f3).length c356_3)∧w'.cell? ⟨gb357,4,none⟩ = some (.slice A356_4 ((rd_T52 l0 x34_1).f0.f4).length c356_4)∧w'.cell? ⟨gb357,5,none⟩ = some (.slice A356_5 ((rd_T52 l0 x34_1).f0.f5).length c356_5)∧w'.cell? ⟨gb357,6,none⟩ = some (.string ((rd_T52 l0 x34_1).f1))) (ds:=[]) #[false,false,false,false,false,false,false,false,false,false] kr_ rfl rfl hc_ (fun hHeld=>?_);refine with_tabW record_Append.tab13 record_Append.bits13 (fun HT_ HW_=>?_)
          generalize w24.drew = w25 at HO_10 BK351 BK357 HB hHeld ⊢
          refine pu_ 0 (some 38) #[true,false,false,false,false,false,false,false,false,false] ?_
          refine pu_ 1 (some 39) #[true,true,false,false,false,false,false,false,false,false] ?_
          refine pu_ 4 (some 42) #[true,true,false,false,true,false,false,false,false,false] ?_
          refine tk_ 2 (some 40) #[true,true,true,false,true,false,false,false,false,false] hHeld ?_
          refine tk_ 5 (some 43) #[true,true,true,false,true,true,false,false,false,false] hHeld ?_
          refine oc_ 3 (some 41) #[true,true,true,true,true,true,false,false,false,false] Tryz.func70 #[.agg #[.int .i64 ((rd_T52 l0 x34_1).f0.f0),.int .i64 ((rd_T52 l0 x34_1).f0.f1),.int .i64 ((rd_T52 l0 x34_1).f0.f2),.slice A356_3 ((rd_T52 l0 x34_1).f0.f3).length c356_3,.slice A356_4 ((rd_T52 l0 x34_1).f0.f4).length c356_4,.slice A356_5 ((rd_T52 l0 x34_1).f0.f5).length c356_5]] (fun K hK=>?_)
          with_reducible refine (record_event.calls ((rd_T52 l0 x34_1).f0.f0) ((rd_T52 l0 x34_1).f0.f1) ((rd_T52 l0 x34_1).f0.f2) _ _ ((rd_T52 l0 x34_1).f0.f3) _ _ ((rd_T52 l0 x34_1).f0.f4) _ _ ((rd_T52 l0 x34_1).f0.f5) t358 t359 t360 t361 t364 t367 _ ?side1 ?side2 ?side3 ?side4 ?side5 ?side6 A19.out).mono ?_
          (case side1=>exact cx_ (Kd.C_below HR356_3.out HB.out))
          (case side2=>exact HC356_3.out)
          (case side3=>exact cx_ (Kd.C_below HR356_4.out HB.out))
          (case side4=>exact HC356_4.out)
          (case side5=>exact cx_ (Kd.C_below HR356_5.out HB.out))
          (case side6=>exact HC356_5.out)
          rintro e w26 ⟨v362,v365,v368,rfl,ho0,ho1,ho2,hb⟩
          refine ⟨_,rfl,?_⟩
          have n0_:=Aside0.mk (Kd.S_mono (Kd.S_told (Kd.S_told (Kd.S_told (Kd.S_old (by (with_reducible repeat (first|apply Kd.S_alloc|apply Kd.S_drewN|apply Kd.S_drew));exact HO_10.out) hb) (Kd.R_base ho0)) (Kd.R_base ho1)) (Kd.R_base ho2)) (fun _ h_=>h_.1))
          have n1_:=Aside0.mk (Kd.R_lower ho0 (below_size bx_))
          have n2_:=Aside0.mk (Kd.R_lower ho1 (below_size bx_))
          have n3_:=Aside0.mk (Kd.R_lower ho2 (below_size bx_))
          have n4_:=Aside0.mk (blk_below (g:=gb351) (o:=.cells #[.int .i64 a1_0,.int .i64 a1_1,.int .i64 a1_2,.slice A1_3 l1_3.length c1_3,.slice A1_4 l1_4.length c1_4,.slice A1_5 l1_5.length c1_5] 26 (0,0)) (by (with_reducible repeat (first|refine blk_drewN ?_ _|refine blk_drew ?_|refine blk_alloc ?_ _));exact BK351.out) hb)
          have n5_:=Aside0.mk (blk_below (g:=gb357) (o:=.cells #[.int .i64 ((rd_T52 l0 x34_1).f0.f0),.int .i64 ((rd_T52 l0 x34_1).f0.f1),.int .i64 ((rd_T52 l0 x34_1).f0.f2),.slice A356_3 ((rd_T52 l0 x34_1).f0.f3).length c356_3,.slice A356_4 ((rd_T52 l0 x34_1).f0.f4).length c356_4,.slice A356_5 ((rd_T52 l0 x34_1).f0.f5).length c356_5,.string ((rd_T52 l0 x34_1).f1)] 52 (0,0)) (by (with_reducible repeat (first|refine blk_drewN ?_ _|refine blk_drew ?_|refine blk_alloc ?_ _));exact BK357.out) hb)
          have n6_:=Aside0.mk (below_step bx_ hb)
          clear HO_10
          clear BK351
          clear BK357
          clear HB
          have HO_10:=n0_
          have HO363:=n1_
          have HO366:=n2_
          have HO369:=n3_
          have BK351:=n4_
          have BK357:=n5_
          have HB:=n6_
          clear n0_ n1_ n2_ n3_ n4_ n5_ n6_
          (try clear hb)
          (try clear ho0)
          (try clear ho1)
          (try clear ho2)
          obtain ⟨Ao27,co27,eo27⟩:=Kd.R_slice HO369.out
          (first|subst eo27|(injection eo27 with f1_ f2_ f3_;have f4_:=f1_.symm;have f5_:=f3_.symm;clear f1_ f2_ f3_;subst f4_;subst f5_))
          obtain ⟨Ao28,co28,eo28⟩:=Kd.R_slice HO366.out
          (first|subst eo28|(injection eo28 with f1_ f2_ f3_;have f4_:=f1_.symm;have f5_:=f3_.symm;clear f1_ f2_ f3_;subst f4_;subst f5_))
          obtain ⟨Ao29,co29,eo29⟩:=Kd.R_slice HO363.out
          (first|subst eo29|(injection eo29 with f1_ f2_ f3_;have f4_:=f1_.symm;have f5_:=f3_.symm;clear f1_ f2_ f3_;subst f4_;subst f5_))
          refine hk_ hK (fun hHeld=>?_);clear hK K
          refine pu_ 6 (some 44) #[true,true,true,true,true,true,true,false,false,false] ?_
          refine one_ (i:=7) (N:=some 45) #[true,true,true,true,true,true,true,true,false,false] rfl rfl (one_of HT_.out kr_) de_ (fun K hK=>?_)
          refine value_ (w1:=?_) (v:=?_) (by rfl) rfl ?_ ?_
          rotate_left 2
          ·go_simp
           constructor
           ·rfl
           ·rfl
          refine hK.out _ _ ⟨(blk_cell (blk_alloc BK357.out _) 0).trans rfl,(blk_cell (blk_alloc BK357.out _) 1).trans rfl,(blk_cell (blk_alloc BK357.out _) 2).trans rfl,(blk_cell (blk_alloc BK357.out _) 3).trans rfl,(blk_cell (blk_alloc BK357.out _) 4).trans rfl,(blk_cell (blk_alloc BK357.out _) 5).trans rfl,(blk_cell (blk_alloc BK357.out _) 6).trans rfl⟩ (fun hHeld=>?_)
          clear hK K
          refine norm_ (a':=?_) ?_ ?_
          rotate_left
          ·show Act.put _ (some 45) _ = _
           simp only [Act.put,List.setIfInBounds_toArray,List.set_cons_zero,List.set_cons_succ,i64_w,i32_w]
           rfl
          refine one_ (i:=8) (N:=some 46) #[true,true,true,true,true,true,true,true,true,false] rfl rfl (one_of HT_.out kr_) de_ (fun K hK=>?_)
          refine Kd.S_append_step k52 (w0:=w) w.heap.size (by rfl) (.tmp 38) (.tmp 45) 37 52 (.agg #[(.int .i64 0),(.int .i64 0),(.int .i64 0),(.slice none 0 0),(.slice none 0 0),(.slice none 0 0),(.string ⟨#[]⟩)]) 112 rfl Tryz.underlying37 info52 rfl de_ (by omega) u10 x10_1 (⟨(⟨t358,t359,t360,t361,t364,t367⟩:S26),(rd_T52 l0 x34_1).f1⟩:S52) [.int .i64 t358,.int .i64 t359,.int .i64 t360,.slice Ao29 t361.length co29,.slice Ao28 t364.length co28,.slice Ao27 t367.length co27,.string ((rd_T52 l0 x34_1).f1)] (fun k_=>k_≠gb357) (fun k_=>some k_ = (.slice Ao29 t361.length co29:Value).ownBlock ∨ some k_ = (.slice Ao28 t364.length co28:Value).ownBlock ∨ some k_ = (.slice Ao27 t367.length co27:Value).ownBlock) rfl rfl ?aP (fun k_ hk_=>hk_.elim (fun h_=>((Kd.R_mono (ok':=fun k_=>((fun k_=>k_≠gb357)) k_∧some k_≠(u10:Value).ownBlock) (Kd.R_types (Kd.R_apart' (HO363.out) (Kd.S_typed HO_10.out) de_) BK357.out de_) (fun k_ hk=>⟨hk.2,hk.1.2⟩))).1 k_ h_.symm) (fun h_=>h_.elim (fun h_=>((Kd.R_mono (ok':=fun k_=>((fun k_=>k_≠gb357)) k_∧some k_≠(u10:Value).ownBlock) (Kd.R_types (Kd.R_apart' (HO366.out) (Kd.S_typed HO_10.out) de_) BK357.out de_) (fun k_ hk=>⟨hk.2,hk.1.2⟩))).1 k_ h_.symm) (fun h_=>((Kd.R_mono (ok':=fun k_=>((fun k_=>k_≠gb357)) k_∧some k_≠(u10:Value).ownBlock) (Kd.R_types (Kd.R_apart' (HO369.out) (Kd.S_typed HO_10.out) de_) BK357.out de_) (fun k_ hk=>⟨hk.2,hk.1.2⟩))).1 k_ h_.symm))) ?aF ?aO ?aB ?aS ?aL ?_
          (case aP=>exact k52_mkM _ _ _ (⟨(⟨t358,t359,t360,t361,t364,t367⟩:S26),(rd_T52 l0 x34_1).f1⟩:S52) (Kd.R_mono (Kd.R_tight rfl (Kd.R_mono (ok':=fun k_=>((fun k_=>k_≠gb357)) k_∧some k_≠(u10:Value).ownBlock) (Kd.R_types (Kd.R_apart' (HO363.out) (Kd.S_typed HO_10.out) de_) BK357.out de_) (fun k_ hk=>⟨hk.2,hk.1.2⟩))) (fun _ h_=>Or.inl h_)) (Kd.R_mono (Kd.R_tight rfl (Kd.R_mono (ok':=fun k_=>((fun k_=>k_≠gb357)) k_∧some k_≠(u10:Value).ownBlock) (Kd.R_types (Kd.R_apart' (HO366.out) (Kd.S_typed HO_10.out) de_) BK357.out de_) (fun k_ hk=>⟨hk.2,hk.1.2⟩))) (fun _ h_=>Or.inr (Or.inl h_))) (Kd.R_mono (Kd.R_tight rfl (Kd.R_mono (ok':=fun k_=>((fun k_=>k_≠gb357)) k_∧some k_≠(u10:Value).ownBlock) (Kd.R_types (Kd.R_apart' (HO369.out) (Kd.S_typed HO_10.out) de_) BK357.out de_) (fun k_ hk=>⟨hk.2,hk.1.2⟩))) (fun _ h_=>Or.inr (Or.inr (h_)))))
          (case aB=>exact bx_)
          (case aF=>exact (fun k_ hk=>Kd.freshB (g:=gb357) (o:=.cells #[.int .i64 ((rd_T52 l0 x34_1).f0.f0),.int .i64 ((rd_T52 l0 x34_1).f0.f1),.int .i64 ((rd_T52 l0 x34_1).f0.f2),.slice A356_3 ((rd_T52 l0 x34_1).f0.f3).length c356_3,.slice A356_4 ((rd_T52 l0 x34_1).f0.f4).length c356_4,.slice A356_5 ((rd_T52 l0 x34_1).f0.f5).length c356_5,.string ((rd_T52 l0 x34_1).f1)] 52 (0,0)) (by (with_reducible repeat (first|refine blk_drewN ?_ _|refine blk_drew ?_|refine blk_alloc ?_ _));exact BK357.out) k_ hk))
          (case aO=>exact (by (with_reducible repeat (first|apply Kd.S_alloc|apply Kd.S_drewN|apply Kd.S_drew));exact Kd.S_mono HO_10.out (fun k_ hk=>⟨hk.1.1.1,fun e_=>e_.elim (fun h_=>hk.1.1.2 h_) (fun h_=>h_.elim (fun h_=>hk.1.2 h_) (fun h_=>hk.2 h_))⟩)))
          (case aS=>exact (below_size bx_))
          (case aL=>have:=LMc20.out;omega)
          intro v371 w30 ho hb hg hat
          rw [← Ny370.out] at ho
          have n0_:=Aside0.mk (blk_grown (g:=gb351) (o:=.cells #[.int .i64 a1_0,.int .i64 a1_1,.int .i64 a1_2,.slice A1_3 l1_3.length c1_3,.slice A1_4 l1_4.length c1_4,.slice A1_5 l1_5.length c1_5] 26 (0,0)) (by (with_reducible repeat (first|refine blk_drewN ?_ _|refine blk_drew ?_|refine blk_alloc ?_ _));exact BK351.out) hg (Kd.S_ne HO_10.out BK351.out de_))
          have n1_:=Aside0.mk (blk_grown (g:=gb357) (o:=.cells #[.int .i64 ((rd_T52 l0 x34_1).f0.f0),.int .i64 ((rd_T52 l0 x34_1).f0.f1),.int .i64 ((rd_T52 l0 x34_1).f0.f2),.slice A356_3 ((rd_T52 l0 x34_1).f0.f3).length c356_3,.slice A356_4 ((rd_T52 l0 x34_1).f0.f4).length c356_4,.slice A356_5 ((rd_T52 l0 x34_1).f0.f5).length c356_5,.string ((rd_T52 l0 x34_1).f1)] 52 (0,0)) (by (with_reducible repeat (first|refine blk_drewN ?_ _|refine blk_drew ?_|refine blk_alloc ?_ _));exact BK357.out) hg (Kd.S_away HO_10.out (fun _ hk=>hk.1.1.1)))
          have n2_:=Aside0.mk (hb)
          have n3_:=Aside0.mk (ho)
          clear BK351
          clear BK357
          clear HB
          clear HO_10
          clear HO363
          clear HO366
          clear HO369
          have BK351:=n0_
          have BK357:=n1_
          have HB:=n2_
          have HO372:=n3_
          clear n0_ n1_ n2_ n3_
          clear ho hb hg hat
          refine hk_ hK (fun hHeld=>?_);clear hK K
          refine pu_ 9 (some 10) #[true,true,true,true,true,true,true,true,true,true] ?_
          refine done_ (done_of HT_.out kr_) ?_
          try go_wp2
          go_roundg k1
          case measure=>have:=HK1.out;omega
          case rel=>exact ⟨(y370),(wrap64 (x34_1 + 1)),rg_,H',⟨by have:=HK1.out;omega⟩,⟨by (with_reducible repeat (first|apply Kd.S_alloc|apply Kd.S_drewN|apply Kd.S_drew));exact Kd.S_mono HO372.out (fun _ hk=>trivial)⟩,⟨by (with_reducible repeat (first|refine blk_drewN ?_ _|refine blk_drew ?_|refine blk_alloc ?_ _));exact BK351.out⟩,⟨bx_⟩⟩
         ·rw [if_neg c20] at H
          exact absurd H sm_
        ·rw [if_neg c18] at H
         exact absurd H sm_
       ·rw [if_neg c17] at H
        exact absurd H sm_
      ·rw [if_neg c16] at H
       have c16b0:decide (x34_1 < (l0.length:Int)) = false:=decide_eq_false c16
       clear c16
       obtain ⟨⟨t373,t374,t375,t376,t379,t382⟩,A31,H⟩:=bn_ H
       dsimp only at H
       obtain ⟨t385,A32,H⟩:=bn_ H
       by_cases c33:x10_1.length < 1256584717458
       ·rw [if_pos c33] at H
        have LMc33:=Aside0.mk c33
        clear c33
        obtain ⟨y386,hy386⟩:∃ y_:List (S52),y_ = (x10_1 ++ [(⟨(⟨t373,t374,t375,t376,t379,t382⟩:S26),t385⟩:S52)]):=⟨_,rfl⟩
        replace H:(some (y386,0)) = some (r1,r2):=by first|(rw [hy386];with_reducible exact H)|(have H2_:=(Option.bind_some _ _).symm.trans H;rw [hy386];with_reducible exact H2_)|(have H2_:=(Option.bind_some _ _).symm.trans H;with_reducible exact H2_)|with_reducible exact H|(rw [hy386];exact H)|exact H
        have Ny386:=Aside0.mk hy386
        clear hy386
        simp only [Option.some.injEq,Prod.mk.injEq] at H
        obtain ⟨rfl,rfl⟩:=H
        obtain ⟨hcz34_0,hcz34_1,hcz34_2,hcz34_3,hcz34_4,hcz34_5,hfz34_0,hfz34_1,hfz34_2,hfz34_3,hfz34_4,hfz34_5⟩:=c6_ BK351
        go_wp2_with (first|((with_reducible refine gate_callee (f:=70) rfl ?_);refine gm_ (some 50) Tryz.func70 #[.agg #[.int .i64 a1_0,.int .i64 a1_1,.int .i64 a1_2,.slice A1_3 l1_3.length c1_3,.slice A1_4 l1_4.length c1_4,.slice A1_5 l1_5.length c1_5]] ?_;(with_reducible refine (record_event.calls a1_0 a1_1 a1_2 _ _ l1_3 _ _ l1_4 _ _ l1_5 t373 t374 t375 t376 t379 t382 _ ?side1 ?side2 ?side3 ?side4 ?side5 ?side6 A31.out).mono ?_);(case side1=>exact cx_ (Kd.C_below HR1_3.out HB.out));(case side2=>exact HC1_3.out);(case side3=>exact cx_ (Kd.C_below HR1_4.out HB.out));(case side4=>exact HC1_4.out);(case side5=>exact cx_ (Kd.C_below HR1_5.out HB.out));(case side6=>exact HC1_5.out);rintro e w35 ⟨v377,v380,v383,rfl,ho0,ho1,ho2,hb⟩;refine ⟨_,rfl,?_⟩;have n0_:=Aside0.mk (Kd.S_mono (Kd.S_told (Kd.S_told (Kd.S_told (Kd.S_old (by (with_reducible repeat (first|apply Kd.S_alloc|apply Kd.S_drewN|apply Kd.S_drew));exact HO_10.out) hb) (Kd.R_base ho0)) (Kd.R_base ho1)) (Kd.R_base ho2)) (fun _ h_=>h_.1));have n1_:=Aside0.mk (Kd.R_lower ho0 (below_size bx_));have n2_:=Aside0.mk (Kd.R_lower ho1 (below_size bx_));have n3_:=Aside0.mk (Kd.R_lower ho2 (below_size bx_));have n4_:=Aside0.mk (blk_below (g:=gb351) (o:=.cells #[.int .i64 a1_0,.int .i64 a1_1,.int .i64 a1_2,.slice A1_3 l1_3.length c1_3,.slice A1_4 l1_4.length c1_4,.slice A1_5 l1_5.length c1_5] 26 (0,0)) (by (with_reducible repeat (first|refine blk_drewN ?_ _|refine blk_drew ?_|refine blk_alloc ?_ _));exact BK351.out) hb);have n5_:=Aside0.mk (below_step bx_ hb);clear HO_10;clear BK351;clear HB;have HO_10:=n0_;have HO378:=n1_;have HO381:=n2_;have HO384:=n3_;have BK351:=n4_;have HB:=n5_;clear n0_ n1_ n2_ n3_ n4_ n5_;(try clear hb);(try clear ho0);(try clear ho1);(try clear ho2))|((with_reducible refine gate_callee (f:=61) rfl ?_);refine gm_ (some 53) Tryz.func61 #[.slice A0 l0.length c0,.string t354] ?_;(with_reducible refine (record_seal.calls _ _ l0 t354 t385 _ ?side1 ?side2 A32.out).mono ?_);(case side1=>exact cx_ (Kd.C_below HR0.out HB.out));(case side2=>exact HC0.out);rintro e w36 ⟨rfl,hb⟩;refine ⟨_,rfl,?_⟩;have n0_:=Aside0.mk (Kd.S_below (by (with_reducible repeat (first|apply Kd.S_alloc|apply Kd.S_drewN|apply Kd.S_drew));exact HO_10.out) hb);have n1_:=Aside0.mk (Kd.R_below (by (with_reducible repeat (first|apply Kd.R_alloc|apply Kd.R_drewN|apply Kd.R_drew));exact HO378.out) hb);have n2_:=Aside0.mk (Kd.R_below (by (with_reducible repeat (first|apply Kd.R_alloc|apply Kd.R_drewN|apply Kd.R_drew));exact HO381.out) hb);have n3_:=Aside0.mk (Kd.R_below (by (with_reducible repeat (first|apply Kd.R_alloc|apply Kd.R_drewN|apply Kd.R_drew));exact HO384.out) hb);have n4_:=Aside0.mk (blk_below (g:=gb351) (o:=.cells #[.int .i64 a1_0,.int .i64 a1_1,.int .i64 a1_2,.slice A1_3 l1_3.length c1_3,.slice A1_4 l1_4.length c1_4,.slice A1_5 l1_5.length c1_5] 26 (0,0)) (by (with_reducible repeat (first|refine blk_drewN ?_ _|refine blk_drew ?_|refine blk_alloc ?_ _));exact BK351.out) hb);have n5_:=Aside0.mk (below_step bx_ hb);clear HO_10;clear HO378;clear HO381;clear HO384;clear BK351;clear HB;have HO_10:=n0_;have HO378:=n1_;have HO381:=n2_;have HO384:=n3_;have BK351:=n4_;have HB:=n5_;clear n0_ n1_ n2_ n3_ n4_ n5_;(try clear hb);obtain ⟨Ao37,co37,eo37⟩:=Kd.R_slice HO384.out;subst eo37;obtain ⟨Ao38,co38,eo38⟩:=Kd.R_slice HO381.out;subst eo38;obtain ⟨Ao39,co39,eo39⟩:=Kd.R_slice HO378.out;subst eo39)|((with_reducible refine gate_builtin (b:=.append) (xs:=#[.tmp 48,.tmp 55]) rfl ?_);at_builtin;refine Kd.S_append k52 (w0:=w) w.heap.size rfl (.tmp 48) (.tmp 55) 37 52 (.agg #[(.int .i64 0),(.int .i64 0),(.int .i64 0),(.slice none 0 0),(.slice none 0 0),(.slice none 0 0),(.string ⟨#[]⟩)]) 112 rfl Tryz.underlying37 info52 rfl de_ (by omega) u10 x10_1 (⟨(⟨t373,t374,t375,t376,t379,t382⟩:S26),t385⟩:S52) [.int .i64 t373,.int .i64 t374,.int .i64 t375,.slice Ao39 t376.length co39,.slice Ao38 t379.length co38,.slice Ao37 t382.length co37,.string t385] (fun _=>True) (fun k_=>some k_ = (.slice Ao39 t376.length co39:Value).ownBlock ∨ some k_ = (.slice Ao38 t379.length co38:Value).ownBlock ∨ some k_ = (.slice Ao37 t382.length co37:Value).ownBlock) rfl rfl ?aP (fun k_ hk_=>hk_.elim (fun h_=>((Kd.R_mono (ok':=fun k_=>((fun _=>True)) k_∧some k_≠(u10:Value).ownBlock) (Kd.R_apart' (HO378.out) (Kd.S_typed HO_10.out) de_) (fun k_ hk=>⟨trivial,hk.2⟩))).1 k_ h_.symm) (fun h_=>h_.elim (fun h_=>((Kd.R_mono (ok':=fun k_=>((fun _=>True)) k_∧some k_≠(u10:Value).ownBlock) (Kd.R_apart' (HO381.out) (Kd.S_typed HO_10.out) de_) (fun k_ hk=>⟨trivial,hk.2⟩))).1 k_ h_.symm) (fun h_=>((Kd.R_mono (ok':=fun k_=>((fun _=>True)) k_∧some k_≠(u10:Value).ownBlock) (Kd.R_apart' (HO384.out) (Kd.S_typed HO_10.out) de_) (fun k_ hk=>⟨trivial,hk.2⟩))).1 k_ h_.symm))) ?aF ?aO ?aB ?aS ?aL ?_;(case aP=>exact k52_mkM _ _ _ (⟨(⟨t373,t374,t375,t376,t379,t382⟩:S26),t385⟩:S52) (Kd.R_mono (Kd.R_tight rfl (Kd.R_mono (ok':=fun k_=>((fun _=>True)) k_∧some k_≠(u10:Value).ownBlock) (Kd.R_apart' (HO378.out) (Kd.S_typed HO_10.out) de_) (fun k_ hk=>⟨trivial,hk.2⟩))) (fun _ h_=>Or.inl h_)) (Kd.R_mono (Kd.R_tight rfl (Kd.R_mono (ok':=fun k_=>((fun _=>True)) k_∧some k_≠(u10:Value).ownBlock) (Kd.R_apart' (HO381.out) (Kd.S_typed HO_10.out) de_) (fun k_ hk=>⟨trivial,hk.2⟩))) (fun _ h_=>Or.inr (Or.inl h_))) (Kd.R_mono (Kd.R_tight rfl (Kd.R_mono (ok':=fun k_=>((fun _=>True)) k_∧some k_≠(u10:Value).ownBlock) (Kd.R_apart' (HO384.out) (Kd.S_typed HO_10.out) de_) (fun k_ hk=>⟨trivial,hk.2⟩))) (fun _ h_=>Or.inr (Or.inr (h_)))));(case aB=>exact bx_);(case aF=>exact (fun _ _=>trivial));(case aO=>exact (by (with_reducible repeat (first|apply Kd.S_alloc|apply Kd.S_drewN|apply Kd.S_drew));exact Kd.S_mono HO_10.out (fun k_ hk=>⟨trivial,fun e_=>e_.elim (fun h_=>hk.1.1.2 h_) (fun h_=>h_.elim (fun h_=>hk.1.2 h_) (fun h_=>hk.2 h_))⟩)));(case aS=>exact (below_size bx_));(case aL=>have:=LMc33.out;omega);intro v387 w40 ho hb hg hat;rw [← Ny386.out] at ho;have n0_:=Aside0.mk (blk_grown (g:=gb351) (o:=.cells #[.int .i64 a1_0,.int .i64 a1_1,.int .i64 a1_2,.slice A1_3 l1_3.length c1_3,.slice A1_4 l1_4.length c1_4,.slice A1_5 l1_5.length c1_5] 26 (0,0)) (by (with_reducible repeat (first|refine blk_drewN ?_ _|refine blk_drew ?_|refine blk_alloc ?_ _));exact BK351.out) hg (Kd.S_ne HO_10.out BK351.out de_));have n1_:=Aside0.mk (hb);have n2_:=Aside0.mk (ho);clear BK351;clear HB;clear HO_10;clear HO378;clear HO381;clear HO384;have BK351:=n0_;have HB:=n1_;have HO388:=n2_;clear n0_ n1_ n2_;clear ho hb hg hat))
        go_ret2
        exact ⟨_,rf_,by (with_reducible repeat (first|apply Kd.S_alloc|apply Kd.S_drewN|apply Kd.S_drew));exact HO388.out,bx_⟩
       ·rw [if_neg c33] at H
        exact absurd H sm_
  ·rw [if_neg c6] at H
   have c6b0:(t355 == 0) = false:=beq_eq_false_iff_ne.mpr c6
   have c6b1:(t355 != 0) = true:=bne_iff_ne.mpr c6
   simp only [Option.some.injEq,Prod.mk.injEq] at H
   obtain ⟨rfl,rfl⟩:=H
   go_enter Tryz.func31,Tryz.ntmps31
   go_wp2_with (first|((with_reducible refine gate_dst (N:=3) rfl ?_);refine box_event ?hg (N:=3) ?hd (cs:=#[.int .i64 a1_0,.int .i64 a1_1,.int .i64 a1_2,.slice A1_3 l1_3.length c1_3,.slice A1_4 l1_4.length c1_4,.slice A1_5 l1_5.length c1_5]) (t:=26) ?hr ?_;(case hd=>rfl);(case hg=>rfl);(case hr=>first|(go_simp;done)|(go_simp;rfl));intro gb351 hg w41 hbox hb;have n0_:=Aside0.mk (below_step bx_ hb);have n1_:=Aside0.mk (hbox);have n2_:=Aside0.mk ((by rw [hg];exact (below_size bx_):w.heap.size≤gb351));have n3_:=Aside0.mk ((by rw [hg];exact (below_size bx_):w.heap.size≤gb351));clear HB;have HB:=n0_;have BK351:=n1_;have GE351:=n2_;have GE351:=n3_;clear n0_ n1_ n2_ n3_;clear hb hbox hg)|((with_reducible refine gate_callee (f:=27) rfl ?_);refine gm_ (some 15) Tryz.func27 #[.slice A0 l0.length c0] ?_;(with_reducible refine (record_Check.calls k _ _ l0 t352 t353 _ ?side1 ?side2 ?side3 A3.out).mono ?_);(case side1=>exact cx_ (Kd.C_below HR0.out HB.out));(case side2=>exact HC0.out);(case side3=>exact HLW.out.below bx_);rintro e w42 ⟨rfl,hb⟩;refine ⟨_,rfl,?_⟩;have n0_:=Aside0.mk (blk_below (g:=gb351) (o:=.cells #[.int .i64 a1_0,.int .i64 a1_1,.int .i64 a1_2,.slice A1_3 l1_3.length c1_3,.slice A1_4 l1_4.length c1_4,.slice A1_5 l1_5.length c1_5] 26 (0,0)) (by (with_reducible repeat (first|refine blk_drewN ?_ _|refine blk_drew ?_|refine blk_alloc ?_ _));exact BK351.out) hb);have n1_:=Aside0.mk (below_step bx_ hb);clear BK351;clear HB;have BK351:=n0_;have HB:=n1_;clear n0_ n1_;(try clear hb);obtain ⟨hcz43_0,hcz43_1,hcz43_2,hcz43_3,hcz43_4,hcz43_5,hfz43_0,hfz43_1,hfz43_2,hfz43_3,hfz43_4,hfz43_5⟩:=c6_ BK351)|((with_reducible refine gate_callee (f:=60) rfl ?_);refine gm_ (some 23) Tryz.func60 #[.slice A0 l0.length c0,.agg #[.int .i64 a1_0,.int .i64 a1_1,.int .i64 a1_2,.slice A1_3 l1_3.length c1_3,.slice A1_4 l1_4.length c1_4,.slice A1_5 l1_5.length c1_5]] ?_;(with_reducible refine (record_fits.calls k _ _ l0 a1_0 a1_1 a1_2 _ _ l1_3 _ _ l1_4 _ _ l1_5 t354 t355 _ ?side1 ?side2 ?side3 ?side4 ?side5 ?side6 ?side7 ?side8 ?side9 A5.out).mono ?_);(case side1=>exact cx_ (Kd.C_below HR0.out HB.out));(case side2=>exact HC0.out);(case side3=>exact cx_ (Kd.C_below HR1_3.out HB.out));(case side4=>exact HC1_3.out);(case side5=>exact cx_ (Kd.C_below HR1_4.out HB.out));(case side6=>exact HC1_4.out);(case side7=>exact cx_ (Kd.C_below HR1_5.out HB.out));(case side8=>exact HC1_5.out);(case side9=>exact HLW.out.below bx_);rintro e w44 ⟨rfl,hb⟩;refine ⟨_,rfl,?_⟩;have n0_:=Aside0.mk (blk_below (g:=gb351) (o:=.cells #[.int .i64 a1_0,.int .i64 a1_1,.int .i64 a1_2,.slice A1_3 l1_3.length c1_3,.slice A1_4 l1_4.length c1_4,.slice A1_5 l1_5.length c1_5] 26 (0,0)) (by (with_reducible repeat (first|refine blk_drewN ?_ _|refine blk_drew ?_|refine blk_alloc ?_ _));exact BK351.out) hb);have n1_:=Aside0.mk (below_step bx_ hb);clear BK351;clear HB;have BK351:=n0_;have HB:=n1_;clear n0_ n1_;(try clear hb)))
   go_ret2
   exact ⟨_,rf_,by first|exact Kd.S_nil _ _ _ _ _|exact Kd.N_nil _ _ _ _ _|exact Kd.V_nil _ _ _ _ _|exact Kd.Q_nil _ _ _ _ _|exact Kd.R_nil _ _ _ _ _,bx_⟩
 ·rw [if_neg c4] at H
  have c4b0:(t353 == 0) = false:=beq_eq_false_iff_ne.mpr c4
  have c4b1:(t353 != 0) = true:=bne_iff_ne.mpr c4
  simp only [Option.some.injEq,Prod.mk.injEq] at H
  obtain ⟨rfl,rfl⟩:=H
  go_enter Tryz.func31,Tryz.ntmps31
  go_wp2_with (first|((with_reducible refine gate_dst (N:=3) rfl ?_);refine box_event ?hg (N:=3) ?hd (cs:=#[.int .i64 a1_0,.int .i64 a1_1,.int .i64 a1_2,.slice A1_3 l1_3.length c1_3,.slice A1_4 l1_4.length c1_4,.slice A1_5 l1_5.length c1_5]) (t:=26) ?hr ?_;(case hd=>rfl);(case hg=>rfl);(case hr=>first|(go_simp;done)|(go_simp;rfl));intro gb351 hg w45 hbox hb;have n0_:=Aside0.mk (below_step bx_ hb);have n1_:=Aside0.mk (hbox);have n2_:=Aside0.mk ((by rw [hg];exact (below_size bx_):w.heap.size≤gb351));have n3_:=Aside0.mk ((by rw [hg];exact (below_size bx_):w.heap.size≤gb351));clear HB;have HB:=n0_;have BK351:=n1_;have GE351:=n2_;have GE351:=n3_;clear n0_ n1_ n2_ n3_;clear hb hbox hg)|((with_reducible refine gate_callee (f:=27) rfl ?_);refine gm_ (some 15) Tryz.func27 #[.slice A0 l0.length c0] ?_;(with_reducible refine (record_Check.calls k _ _ l0 t352 t353 _ ?side1 ?side2 ?side3 A3.out).mono ?_);(case side1=>exact cx_ (Kd.C_below HR0.out HB.out));(case side2=>exact HC0.out);(case side3=>exact HLW.out.below bx_);rintro e w46 ⟨rfl,hb⟩;refine ⟨_,rfl,?_⟩;have n0_:=Aside0.mk (blk_below (g:=gb351) (o:=.cells #[.int .i64 a1_0,.int .i64 a1_1,.int .i64 a1_2,.slice A1_3 l1_3.length c1_3,.slice A1_4 l1_4.length c1_4,.slice A1_5 l1_5.length c1_5] 26 (0,0)) (by (with_reducible repeat (first|refine blk_drewN ?_ _|refine blk_drew ?_|refine blk_alloc ?_ _));exact BK351.out) hb);have n1_:=Aside0.mk (below_step bx_ hb);clear BK351;clear HB;have BK351:=n0_;have HB:=n1_;clear n0_ n1_;(try clear hb)))
  go_ret2
  exact ⟨_,rf_,by first|exact Kd.S_nil _ _ _ _ _|exact Kd.N_nil _ _ _ _ _|exact Kd.V_nil _ _ _ _ _|exact Kd.Q_nil _ _ _ _ _|exact Kd.R_nil _ _ _ _ _,bx_⟩
end Go.Proofs.YtcmbggahndfnnaaGreatDoor.Pr
namespace Go.Proofs.YtcmbggahndfnnaaGreatDoor.Pr
open Go.RowKit Go.Proofs.YtcmbggahndfnnaaGreatDoorW.PrintWords Go.Proofs.YtcmbggahndfnnaaGreatDoorW.PrintLast Go.Proofs.YtcmbggahndfnnaaGreatDoorW.PrintMore
attribute [local go_sem] max2_int min2_int max_two min_two max_three min_three max_four min_four
set_option maxHeartbeats 8000000
set_option maxRecDepth 100000
set_option linter.unusedVariables false
set_option linter.unusedSimpArgs false
def record_Events.l0:Nat→List (S26)→List (S52)→Int→Int→Option ((List (S26)))
 | 0,_,_,_,_=>none
 | k + 1,x3,x6,x7,x8=>if x8 < x7 then (if 0≤x8 then (if x8 < (x6.length:Int) then ((record_event.f ((rd_T52 x6 x8).f0.f0) ((rd_T52 x6 x8).f0.f1) ((rd_T52 x6 x8).f0.f2) ((rd_T52 x6 x8).f0.f3) ((rd_T52 x6 x8).f0.f4) ((rd_T52 x6 x8).f0.f5)).bind fun bt391=>(if x3.length < 1466015503701 then (record_Events.l0 k (x3 ++ [(⟨bt391.1,bt391.2.1,bt391.2.2.1,bt391.2.2.2.1,bt391.2.2.2.2.1,bt391.2.2.2.2.2⟩:S26)]) x6 x7 (wrap64 (x8 + 1))) else (none))) else (none)) else (none)) else (some x3)
def record_Events.f (k:Nat) (l0:List (S52)):Option ((List (S26))):=record_Events.l0 k ([]:List (S26)) l0 (l0.length:Int) 0
theorem record_Events.mono_l:∀ k,(∀ y0 y1 y2 y3,LeO (record_Events.l0 k y0 y1 y2 y3) (record_Events.l0 (k + 1) y0 y1 y2 y3))
 | 0=>fun _ _ _ _ r h=>by simp [record_Events.l0] at h
 | k + 1=>by
  have ih0:=record_Events.mono_l k
  ·intro y0 y1 y2 y3
   unfold record_Events.l0
   repeat' first
   | (with_reducible exact ih0 _ _ _ _)
   | (with_reducible exact LeO.refl _)
   | (with_reducible exact LeO.none _)
   | (with_reducible refine LeO.ite ?_ ?_)
   | (with_reducible refine LeO.bind ?_ (fun _=>?_))
   | exact ih0 _ _ _ _
   | exact LeO.none _
   | refine LeO.ite ?_ ?_
   | refine LeO.bind ?_ (fun _=>?_)
theorem record_Events.mono:∀ a0 k,LeO (record_Events.f k a0) (record_Events.f (k + 1) a0):=by
 intro a0 k
 have ih0:=record_Events.mono_l k
 unfold record_Events.f
 repeat' first
   | (with_reducible exact ih0 _ _ _ _)
   | (with_reducible exact LeO.refl _)
   | (with_reducible exact LeO.none _)
   | (with_reducible refine LeO.ite ?_ ?_)
   | (with_reducible refine LeO.bind ?_ (fun _=>?_))
   | exact ih0 _ _ _ _
   | exact LeO.none _
   | refine LeO.ite ?_ ?_
   | refine LeO.bind ?_ (fun _=>?_)
theorem record_Events.calls (k:Nat) (A0:Option Addr) (c0:Nat) (l0:List (S52)) (r:List (S26)) (w:World) (hr0:Kd.C k52 w A0 l0.length l0) (hc0:l0.length≤c0) (h:record_Events.f k l0 = some r) :
  Calls Tryz.prog 35 #[.slice A0 l0.length c0] w fun e w'=>∃ v0_:Value,e = .returned (v0_)∧Kd.S k26 26 w' w.heap.size (fun _=>True) v0_ r∧Below w.heap.size w w':=by
 have hu52:=Tryz.underlying52
 have hu26:=Tryz.underlying26
 have HR0:=Aside0.mk hr0
 have HC0:=Aside0.mk hc0
 clear hr0 hc0
 have HB:=Aside0.mk (Below.refl w.heap.size w)
 have H:=h;clear h;unfold record_Events.f at H
 have H':=Aside0.mk H
 clear H
 go_enter Tryz.func35,Tryz.ntmps35
 go_wp2
 go_loopg [3,8] k (fun kq v3 v8 w'=>∃ (x3_1:List (S26)) (x8_1:Int),v8 = .int .i64 x8_1∧Aside0 (record_Events.l0 kq x3_1 l0 (l0.length:Int) x8_1 = some r)∧Aside0 (kq≤k)∧Aside0 (Kd.S k26 26 w' w.heap.size (fun _=>True) v3 x3_1)∧Aside0 (Below w.heap.size w w'))
 case atStart=>exact ⟨(([]:List (S26))),(0),rg_,H',⟨Nat.le_refl _⟩,⟨by first|exact Kd.S_nil _ _ _ _ _|exact Kd.N_nil _ _ _ _ _|exact Kd.V_nil _ _ _ _ _|exact Kd.Q_nil _ _ _ _ _|exact Kd.R_nil _ _ _ _ _⟩,⟨bx_⟩⟩
 case round =>
  clear H'
  obtain ⟨x3_1,x8_1,rfl,HA,HK1,HO_3,HB⟩:=hrel
  cases gk with
  | zero=>exact absurd HA.out (by simp [record_Events.l0])
  | succ k1 =>
   have H:=HA.out
   clear HA
   simp only [record_Events.l0] at H
   by_cases c2:x8_1 < (l0.length:Int)
   ·rw [if_pos c2] at H
    have c2b0:decide (x8_1 < (l0.length:Int)) = true:=decide_eq_true c2
    clear c2
    by_cases c3:0≤x8_1
    ·rw [if_pos c3] at H
     have c3b0:decide (0≤x8_1) = true:=decide_eq_true c3
     clear c3
     by_cases c4:x8_1 < (l0.length:Int)
     ·rw [if_pos c4] at H
      have c4b0:decide (x8_1 < (l0.length:Int)) = true:=decide_eq_true c4
      clear c4
      obtain ⟨⟨t391,t392,t393,t394,t397,t400⟩,A5,H⟩:=bn_ H
      dsimp only at H
      by_cases c6:x3_1.length < 1466015503701
      ·rw [if_pos c6] at H
       have LMc6:=Aside0.mk c6
       clear c6
       obtain ⟨y403,hy403⟩:∃ y_:List (S26),y_ = (x3_1 ++ [(⟨t391,t392,t393,t394,t397,t400⟩:S26)]):=⟨_,rfl⟩
       replace H:(record_Events.l0 k1 y403 l0 (l0.length:Int) (wrap64 (x8_1 + 1))) = some r:=by first|(rw [hy403];with_reducible exact H)|(have H2_:=(Option.bind_some _ _).symm.trans H;rw [hy403];with_reducible exact H2_)|(have H2_:=(Option.bind_some _ _).symm.trans H;with_reducible exact H2_)|with_reducible exact H|(rw [hy403];exact H)|exact H
       have Ny403:=Aside0.mk hy403
       clear hy403
       have H':=Aside0.mk H
       clear H
       have p389:0≤(x8_1:Int):=da_
       have q389:x8_1 < (l0.length:Int):=da_
       obtain ⟨ad389,A389_3,c389_3,A389_4,c389_4,A389_5,c389_5,e389,hx389_0,hx389_1,hx389_2,hx389_3,hx389_4,hx389_5,hx389_6,hl389_3,hi389_3,hl389_4,hi389_4,hl389_5,hi389_5⟩:=at_T52 HR0.out x8_1 p389 q389
       cases e389
       replace hx389_0:=(HB.out.cell (World.block_lt_of_cell? w _ hx389_0)).trans hx389_0
       replace hx389_1:=(HB.out.cell (World.block_lt_of_cell? w _ hx389_1)).trans hx389_1
       replace hx389_2:=(HB.out.cell (World.block_lt_of_cell? w _ hx389_2)).trans hx389_2
       replace hx389_3:=(HB.out.cell (World.block_lt_of_cell? w _ hx389_3)).trans hx389_3
       replace hx389_4:=(HB.out.cell (World.block_lt_of_cell? w _ hx389_4)).trans hx389_4
       replace hx389_5:=(HB.out.cell (World.block_lt_of_cell? w _ hx389_5)).trans hx389_5
       replace hx389_6:=(HB.out.cell (World.block_lt_of_cell? w _ hx389_6)).trans hx389_6
       have HR389_3:=Aside0.mk hi389_3
       have HC389_3:=Aside0.mk hl389_3
       clear hi389_3 hl389_3
       have HR389_4:=Aside0.mk hi389_4
       have HC389_4:=Aside0.mk hl389_4
       clear hi389_4 hl389_4
       have HR389_5:=Aside0.mk hi389_5
       have HC389_5:=Aside0.mk hl389_5
       clear hi389_5 hl389_5
       replace p389:=eq_true p389
       replace q389:=eq_true q389
       go_wp2_with (first|((with_reducible refine gate_dst (N:=5) rfl ?_);refine bv_ #[.int .i64 0,.int .i64 0,.int .i64 0,.slice none 0 0,.slice none 0 0,.slice none 0 0,.string (⟨#[]⟩:ByteArray)] 52 ?_;clear HB;intro gb390 hg w7 BK390 GE390 hb HB;replace HO_3:=Aside0.mk (Kd.S_below (by (with_reducible repeat (first|apply Kd.S_alloc|apply Kd.S_drewN|apply Kd.S_drew));exact HO_3.out) hb);clear hb hg;obtain ⟨hcz8_0,hcz8_1,hcz8_2,hcz8_3,hcz8_4,hcz8_5,hcz8_6,hfz8_0,hfz8_1,hfz8_2,hfz8_3,hfz8_4,hfz8_5,hfz8_6⟩:=c7_ BK390)|((with_reducible refine gate_callee (f:=70) rfl ?_);refine gm_ (some 15) Tryz.func70 #[.agg #[.int .i64 ((rd_T52 l0 x8_1).f0.f0),.int .i64 ((rd_T52 l0 x8_1).f0.f1),.int .i64 ((rd_T52 l0 x8_1).f0.f2),.slice A389_3 ((rd_T52 l0 x8_1).f0.f3).length c389_3,.slice A389_4 ((rd_T52 l0 x8_1).f0.f4).length c389_4,.slice A389_5 ((rd_T52 l0 x8_1).f0.f5).length c389_5]] ?_;(with_reducible refine (record_event.calls ((rd_T52 l0 x8_1).f0.f0) ((rd_T52 l0 x8_1).f0.f1) ((rd_T52 l0 x8_1).f0.f2) _ _ ((rd_T52 l0 x8_1).f0.f3) _ _ ((rd_T52 l0 x8_1).f0.f4) _ _ ((rd_T52 l0 x8_1).f0.f5) t391 t392 t393 t394 t397 t400 _ ?side1 ?side2 ?side3 ?side4 ?side5 ?side6 A5.out).mono ?_);(case side1=>exact Kd.C_below HR389_3.out bx_);(case side2=>exact HC389_3.out);(case side3=>exact Kd.C_below HR389_4.out bx_);(case side4=>exact HC389_4.out);(case side5=>exact Kd.C_below HR389_5.out bx_);(case side6=>exact HC389_5.out);rintro e w9 ⟨v395,v398,v401,rfl,ho0,ho1,ho2,hb⟩;refine ⟨_,rfl,?_⟩;have HO396:=Aside0.mk (Kd.R_lower ho0 (below_size bx_));have HO399:=Aside0.mk (Kd.R_lower ho1 (below_size bx_));have HO402:=Aside0.mk (Kd.R_lower ho2 (below_size bx_));replace HO_3:=Aside0.mk (Kd.S_mono (Kd.S_told (Kd.S_told (Kd.S_told (Kd.S_old (by (with_reducible repeat (first|apply Kd.S_alloc|apply Kd.S_drewN|apply Kd.S_drew));exact (Kd.S_mono (Kd.S_far (p:=⟨gb390,6,none⟩) (Kd.S_far (p:=⟨gb390,5,none⟩) (Kd.S_far (p:=⟨gb390,4,none⟩) (Kd.S_far (p:=⟨gb390,3,none⟩) (Kd.S_far (p:=⟨gb390,2,none⟩) (Kd.S_far (p:=⟨gb390,1,none⟩) (Kd.S_far (p:=⟨gb390,0,none⟩) (Kd.S_types HO_3.out BK390.out de_) (fun _ hk=>hk.2) (.int .i64 ((rd_T52 l0 x8_1).f0.f0))) (fun _ hk=>hk.2) (.int .i64 ((rd_T52 l0 x8_1).f0.f1))) (fun _ hk=>hk.2) (.int .i64 ((rd_T52 l0 x8_1).f0.f2))) (fun _ hk=>hk.2) (.slice A389_3 ((rd_T52 l0 x8_1).f0.f3).length c389_3)) (fun _ hk=>hk.2) (.slice A389_4 ((rd_T52 l0 x8_1).f0.f4).length c389_4)) (fun _ hk=>hk.2) (.slice A389_5 ((rd_T52 l0 x8_1).f0.f5).length c389_5)) (fun _ hk=>hk.2) (.string ((rd_T52 l0 x8_1).f1))) (fun _ h_=>h_.1))) hb) (Kd.R_base ho0)) (Kd.R_base ho1)) (Kd.R_base ho2)) (fun _ h_=>h_.1));replace BK390:=Aside0.mk (blk_below (g:=gb390) (o:=.cells #[.int .i64 ((rd_T52 l0 x8_1).f0.f0),.int .i64 ((rd_T52 l0 x8_1).f0.f1),.int .i64 ((rd_T52 l0 x8_1).f0.f2),.slice A389_3 ((rd_T52 l0 x8_1).f0.f3).length c389_3,.slice A389_4 ((rd_T52 l0 x8_1).f0.f4).length c389_4,.slice A389_5 ((rd_T52 l0 x8_1).f0.f5).length c389_5,.string ((rd_T52 l0 x8_1).f1)] 52 (0,0)) bk_ hb);replace HB:=bs_ hb;(try clear hb);(try clear ho0);(try clear ho1);(try clear ho2);obtain ⟨Ao11,co11,eo11⟩:=Kd.R_slice HO396.out;subst eo11;obtain ⟨Ao12,co12,eo12⟩:=Kd.R_slice HO399.out;subst eo12;obtain ⟨Ao13,co13,eo13⟩:=Kd.R_slice HO402.out;subst eo13)|((with_reducible refine gate_builtin (b:=.append) (xs:=#[.tmp 12,.tmp 16]) rfl ?_);at_builtin;refine Kd.S_append k26 (w0:=w) w.heap.size rfl (.tmp 12) (.tmp 16) 45 26 (.agg #[(.int .i64 0),(.int .i64 0),(.int .i64 0),(.slice none 0 0),(.slice none 0 0),(.slice none 0 0)]) 96 rfl Tryz.underlying45 info26 rfl de_ (by omega) u3 x3_1 (⟨t391,t392,t393,t394,t397,t400⟩:S26) [.int .i64 t391,.int .i64 t392,.int .i64 t393,.slice Ao11 t394.length co11,.slice Ao12 t397.length co12,.slice Ao13 t400.length co13] (fun _=>True) (fun k_=>some k_ = (.slice Ao11 t394.length co11:Value).ownBlock ∨ some k_ = (.slice Ao12 t397.length co12:Value).ownBlock ∨ some k_ = (.slice Ao13 t400.length co13:Value).ownBlock) rfl rfl ?aP (fun k_ hk_=>hk_.elim (fun h_=>((Kd.R_mono (ok':=fun k_=>((fun _=>True)) k_∧some k_≠(u3:Value).ownBlock) (Kd.R_apart' (HO396.out) (Kd.S_typed HO_3.out) de_) (fun k_ hk=>⟨trivial,hk.2⟩))).1 k_ h_.symm) (fun h_=>h_.elim (fun h_=>((Kd.R_mono (ok':=fun k_=>((fun _=>True)) k_∧some k_≠(u3:Value).ownBlock) (Kd.R_apart' (HO399.out) (Kd.S_typed HO_3.out) de_) (fun k_ hk=>⟨trivial,hk.2⟩))).1 k_ h_.symm) (fun h_=>((Kd.R_mono (ok':=fun k_=>((fun _=>True)) k_∧some k_≠(u3:Value).ownBlock) (Kd.R_apart' (HO402.out) (Kd.S_typed HO_3.out) de_) (fun k_ hk=>⟨trivial,hk.2⟩))).1 k_ h_.symm))) ?aF ?aO ?aB ?aS ?aL ?_;(case aP=>exact k26_mkM _ _ _ (⟨t391,t392,t393,t394,t397,t400⟩:S26) (Kd.R_mono (Kd.R_tight rfl (Kd.R_mono (ok':=fun k_=>((fun _=>True)) k_∧some k_≠(u3:Value).ownBlock) (Kd.R_apart' (HO396.out) (Kd.S_typed HO_3.out) de_) (fun k_ hk=>⟨trivial,hk.2⟩))) (fun _ h_=>Or.inl h_)) (Kd.R_mono (Kd.R_tight rfl (Kd.R_mono (ok':=fun k_=>((fun _=>True)) k_∧some k_≠(u3:Value).ownBlock) (Kd.R_apart' (HO399.out) (Kd.S_typed HO_3.out) de_) (fun k_ hk=>⟨trivial,hk.2⟩))) (fun _ h_=>Or.inr (Or.inl h_))) (Kd.R_mono (Kd.R_tight rfl (Kd.R_mono (ok':=fun k_=>((fun _=>True)) k_∧some k_≠(u3:Value).ownBlock) (Kd.R_apart' (HO402.out) (Kd.S_typed HO_3.out) de_) (fun k_ hk=>⟨trivial,hk.2⟩))) (fun _ h_=>Or.inr (Or.inr (h_)))));(case aB=>exact bx_);(case aF=>exact (fun _ _=>trivial));(case aO=>exact (by (with_reducible repeat (first|apply Kd.S_alloc|apply Kd.S_drewN|apply Kd.S_drew));exact Kd.S_mono HO_3.out (fun k_ hk=>⟨trivial,fun e_=>e_.elim (fun h_=>hk.1.1.2 h_) (fun h_=>h_.elim (fun h_=>hk.1.2 h_) (fun h_=>hk.2 h_))⟩)));(case aS=>exact (below_size bx_));(case aL=>have:=LMc6.out;omega);intro v404 w10 ho hb hg hat;rw [← Ny403.out] at ho;have HO405:=Aside0.mk ho;replace BK390:=Aside0.mk (blk_grown (g:=gb390) (o:=.cells #[.int .i64 ((rd_T52 l0 x8_1).f0.f0),.int .i64 ((rd_T52 l0 x8_1).f0.f1),.int .i64 ((rd_T52 l0 x8_1).f0.f2),.slice A389_3 ((rd_T52 l0 x8_1).f0.f3).length c389_3,.slice A389_4 ((rd_T52 l0 x8_1).f0.f4).length c389_4,.slice A389_5 ((rd_T52 l0 x8_1).f0.f5).length c389_5,.string ((rd_T52 l0 x8_1).f1)] 52 (0,0)) bk_ hg (Kd.S_ne HO_3.out BK390.out de_));replace HB:=Aside0.mk hb;clear HO_3;clear HO396;clear HO399;clear HO402;clear ho hb hg hat))
       go_roundg k1
       case measure=>have:=HK1.out;omega
       case rel=>exact ⟨(y403),(wrap64 (x8_1 + 1)),rg_,H',⟨by have:=HK1.out;omega⟩,⟨by (with_reducible repeat (first|apply Kd.S_alloc|apply Kd.S_drewN|apply Kd.S_drew));exact HO405.out⟩,⟨bx_⟩⟩
      ·rw [if_neg c6] at H
       exact absurd H sm_
     ·rw [if_neg c4] at H
      exact absurd H sm_
    ·rw [if_neg c3] at H
     exact absurd H sm_
   ·rw [if_neg c2] at H
    have c2b0:decide (x8_1 < (l0.length:Int)) = false:=decide_eq_false c2
    clear c2
    obtain rfl:=Option.some.inj H
    go_wp2
    go_ret
    exact ⟨_,rf_,by (with_reducible repeat (first|apply Kd.S_alloc|apply Kd.S_drewN|apply Kd.S_drew));exact HO_3.out,bx_⟩
end Go.Proofs.YtcmbggahndfnnaaGreatDoor.Pr
