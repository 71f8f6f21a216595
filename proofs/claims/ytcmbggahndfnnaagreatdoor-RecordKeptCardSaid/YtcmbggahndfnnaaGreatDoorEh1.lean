/- Part 1 of 1: RecordKept answers true for every input, and each argument reads behind the call as before. The library's tables are tied to the program's text by the card. -/
import Derived.SevenTiedAt
import Derived.Test.YtcmbggahndfnnaaGreatDoorEz6
set_option linter.unusedVariables false
set_option linter.unusedSimpArgs false
namespace Go.Proofs.YtcmbggahndfnnaaGreatDoor.Pr
open Go.RowKit Go.Proofs.YtcmbggahndfnnaaGreatDoorW.PrintWords Go.Proofs.YtcmbggahndfnnaaGreatDoorW.PrintLast Go.Proofs.YtcmbggahndfnnaaGreatDoorW.PrintMore
def bentS (s:ByteArray) (i z:Int):ByteArray:=strOfNums ((bytesOf s).set i.toNat (Go.bits .xor .u8 (rd (bytesOf s) i) z))
def bytealg_MakeNoZero.f (s:ByteArray) (i z:Int):Option ByteArray:=if 0≤i∧i < (s.size:Int)∧s.size≤2000000 then some (bentS s i z) else none
theorem bytesOf_len (s:ByteArray):(bytesOf s).length = s.size:=by unfold bytesOf;rw [List.length_map];rfl
theorem bent_ok {s r:ByteArray} {i z:Int} (h:bytealg_MakeNoZero.f s i z = some r):(0≤i∧i < (s.size:Int)∧s.size≤2000000)∧bentS s i z = r:=by
 unfold bytealg_MakeNoZero.f at h
 by_cases c:0≤i∧i < (s.size:Int)∧s.size≤2000000
 ·rw [if_pos c] at h;exact ⟨c,Option.some.inj h⟩
 ·rw [if_neg c] at h;cases h
theorem bent_all (W:World) (s:ByteArray) (i:Nat) (hi:i < s.size) (hs:s.size≤2000000) (z:Int) :
  (Lib.bytesWorld W 5 s).cell? ⟨W.heap.size,i,none⟩ = some (.int .u8 (rd (bytesOf s) (i:Int)))∧(Lib.bytesWorld W 5 s).frozen? ⟨W.heap.size,i,none⟩ = false ∧
  Below W.heap.size W ((Lib.bytesWorld W 5 s).setCell ⟨W.heap.size,i,none⟩ (.int .u8 z)) ∧
  (convert 57 9 (.slice (some ⟨W.heap.size,0,none⟩) s.size (grownCap W s.size 0 5))).run Tryz.prog ((Lib.bytesWorld W 5 s).setCell ⟨W.heap.size,i,none⟩ (.int .u8 z)) = .ok (.string (strOfNums ((bytesOf s).set i z))) ((Lib.bytesWorld W 5 s).setCell ⟨W.heap.size,i,none⟩ (.int .u8 z)):=by
 have Aa:∀ j,j < s.size→(Lib.bytesWorld W 5 s).cell? ⟨W.heap.size,j,none⟩ = some (.int .u8 (rd (bytesOf s) (j:Int))):=fun j hj=>by
  rw [Lib.bytesWorld_cell W 5 s j hj]
  have hjl:j < s.data.toList.length:=hj
  unfold rd bytesOf
  rw [Int.toNat_natCast,List.getD_eq_getElem?_getD,List.getD_eq_getElem?_getD,List.getElem?_map,List.getElem?_eq_getElem hjl]
  rfl
 have hl:s.size≤grownCap W s.size 0 5:=grownCap_ge W s.size 0 5
 have hz:(Lib.bytesCells W 5 s).size = grownCap W s.size 0 5:=by
  unfold Lib.bytesCells
  have h1:s.data.size = s.size:=rfl
  simp [h1]
  omega
 have hf:(Lib.bytesWorld W 5 s).frozen? ⟨W.heap.size,i,none⟩ = false:=by
  unfold World.frozen?
  simp only [Lib.bytesWorld_at_new]
  simp [hz]
  omega
 refine ⟨Aa i hi,hf,below_set (Lib.bytesWorld_below W 5 s) (Nat.le_refl _),?_⟩
 have hC:Kd.C (Kd.int .u8) ((Lib.bytesWorld W 5 s).setCell ⟨W.heap.size,i,none⟩ (.int .u8 z)) (some ⟨W.heap.size,0,none⟩) s.size ((bytesOf s).set i z):=by
  refine ⟨by rw [List.length_set,bytesOf_len],by omega,fun _=>⟨_,rfl,fun j p hj=>⟨[.int .u8 p],rfl,rfl,fun k u hu=>?_⟩⟩⟩
  cases k with
  | succ k=>simp at hu
  | zero =>
   obtain rfl:Value.int .u8 p = u:=by simpa using hu
   have hjl:j < s.size:=by
    have:=(List.getElem?_eq_some_iff.1 hj).1
    rw [List.length_set,bytesOf_len] at this
    exact this
   have Ab:(⟨W.heap.size,0,none⟩:Addr).add (j * (Kd.int .u8).sz + 0) = ⟨W.heap.size,j,none⟩:=by
    show (⟨W.heap.size,0,none⟩:Addr).add (j * 1 + 0) = _
    unfold Addr.add
    split<;>simp_all
   rw [Ab]
   by_cases e:i = j
   ·subst e
    rw [World.cell?_setCell_same _ _ _ (Aa i hi)]
    have:((bytesOf s).set i z)[i]? = some z:=by rw [List.getElem?_set_self (by rw [bytesOf_len];exact hi)]
    rw [this] at hj
    rw [Option.some.inj hj]
   ·rw [World.cell?_setCell_other _ _ _ _ (fun h=>e (congrArg Addr.off h)),Aa j hjl]
    rw [List.getElem?_set_ne e] at hj
    unfold rd
    rw [Int.toNat_natCast,List.getD_eq_getElem?_getD,hj]
    rfl
 exact Kd.C_string (P:=Tryz.prog) Tryz.underlying57 Tryz.underlying5 Tryz.underlying9 hC
attribute [local go_sem] max2_int min2_int max_two min_two max_three min_three max_four min_four
set_option maxHeartbeats 8000000
set_option maxRecDepth 100000
mutual
def garboardlaw57_RecordKept.j0:Nat→List (S26)→Int→Int→Bool→Option (Bool)
 | 0,_,_,_,_=>none
 | k + 1,x0,x1,x2,x27=>if x27 = true then (some true) else ((garboardlaw57_chain.f k x0).bind fun t492=>((garboardref57_Copy.f k t492).bind fun t495=>((record_Write.f k t495).bind fun bt498=>(if bt498.2 = 0 then (garboardlaw57_RecordKept.j1 k x1 x2 t492 bt498.1 bt498.2 (bt498.1.toList == ([]:List UInt8))) else (garboardlaw57_RecordKept.j1 k x1 x2 t492 bt498.1 bt498.2 true)))))
def garboardlaw57_RecordKept.j1:Nat→Int→Int→List (S52)→ByteArray→Int→Bool→Option (Bool)
 | 0,_,_,_,_,_,_=>none
 | k + 1,x1,x2,x7,x8,x9,x41=>if x41 = true then (if x9 = 0 then (some ((x7.length:Int) == 0)) else (some false)) else (if (x8.size:Int) = 0 then (none) else ((bytealg_MakeNoZero.f x8 (Int.tmod (wrap64 (x1)) (x8.size:Int)) x2).bind fun t500=>((record_Recover.f k t500).bind fun bt501=>(if bt501.2≤(Int.tmod (wrap64 (x1)) (x8.size:Int)) then (if (bt501.1.length:Int)≤(x7.length:Int) then (if 0≤(bt501.1.length:Int) then ((garboardref57_Same.f k bt501.1 (x7.take ((bt501.1.length:Int):Int).toNat)).bind fun t509=>(some t509)) else (none)) else (some false)) else (if 32≤281474976710656 then (garboardlaw57_RecordKept.l0 k x7 bt501.1 (strOfNums (List.replicate 32 0)) bt501.1 (bt501.1.length:Int) 0) else (none))))))
def garboardlaw57_RecordKept.l0:Nat→List (S52)→List (S52)→ByteArray→List (S52)→Int→Int→Option (Bool)
 | 0,_,_,_,_,_,_=>none
 | k + 1,x7,x12,x14,x87,x88,x89=>if x89 < x88 then (if 0≤x89 then (if x89 < (x87.length:Int) then ((garboardref57_CopyEvent.f ((rd_T52 x87 x89).f0.f0) ((rd_T52 x87 x89).f0.f1) ((rd_T52 x87 x89).f0.f2) ((rd_T52 x87 x89).f0.f3) ((rd_T52 x87 x89).f0.f4) ((rd_T52 x87 x89).f0.f5)).bind fun bt516=>((record_Encode.f k bt516.1 bt516.2.1 bt516.2.2.1 bt516.2.2.2.1 bt516.2.2.2.2.1 bt516.2.2.2.2.2).bind fun bt528=>(if bt528.2 = 0 then (if x14.size + bt528.1.size≤9223372036854775807 then ((record_Sum.f (x14 ++ bt528.1)).bind fun t530=>(if ((rd_T52 x87 x89).f1).toList = t530.toList then (garboardlaw57_RecordKept.l0 k x7 x12 ((rd_T52 x87 x89).f1) x87 x88 (wrap64 (x89 + 1))) else (some false))) else (none)) else (some false)))) else (none)) else (none)) else ((garboardref57_Same.f k x12 x7).bind fun t513=>(some (!t513)))
end
def garboardlaw57_RecordKept.f (k:Nat) (l0:List (S26)) (a1:Int) (a2:Int):Option (Bool):=(garboardlaw57_awake.f k).bind fun t490=>(if t490 = true then ((garboardlaw57_few.f k l0).bind fun t491=>(if t491 = true then (garboardlaw57_RecordKept.j0 k l0 a1 a2 (a2 == 0)) else (garboardlaw57_RecordKept.j0 k l0 a1 a2 true))) else (some false))
def garboardlaw57_RecordKept.T20:Bool × List (List Nat × List Nat):=(true,[([],[]),([0],[0]),([1],[1]),([2],[2]),([3,2],[2,3]),([2],[2]),([2],[2]),([5,6,2],[2,5,6]),([7,2,2],[2,7]),([4,8,2],[2,4,8]),([2,9],[2,9])])
def garboardlaw57_RecordKept.B20:List Nat:=[0,1,3,7,15,7,7,103,231,511,1023]
theorem garboardlaw57_RecordKept.tab20:rtab .any (opsOf Tryz.f8 20) = garboardlaw57_RecordKept.T20:=by kernel_rfl
theorem garboardlaw57_RecordKept.bits20:waitsOk garboardlaw57_RecordKept.T20.2 garboardlaw57_RecordKept.B20 = true:=by kernel_rfl
set_option maxHeartbeats 8000000
set_option maxRecDepth 100000
theorem garboardlaw57_RecordKept.calls (k:Nat) (A0:Option Addr) (c0:Nat) (l0:List (S26)) (a1:Int) (a2:Int) (r:Bool) (w:World) (hr0:Kd.C k26 w A0 l0.length l0) (hc0:l0.length≤c0) (hL:LaidW w) (h:garboardlaw57_RecordKept.f k l0 a1 a2 = some r) (hr:r = true) :
  Calls Tryz.prog 8 #[.slice A0 l0.length c0,.int .u16 a1,.int .u8 a2] w fun e w'=>e = .returned (.bool r)∧Below w.heap.size w w':=by
 have Ff:=Tryz.underlying52
 have Fg:=Tryz.underlying26
 have Du:=Aside0.mk hr0
 have Ea:=Aside0.mk hc0
 clear hr0 hc0
 have HB:=Aside0.mk (Below.refl w.heap.size w)
 have HLW:=Aside0.mk hL
 clear hL
 have HRT:=Aside0.mk (hr)
 clear hr
 have H:=h;clear h;unfold garboardlaw57_RecordKept.f at H
 obtain ⟨Df,A4,H⟩:=bn_ H
 by_cases c5:Df = true
 ·subst c5
  rw [if_pos rfl] at H
  have Dz:=Aside0.mk H
  clear H
  go_enter Tryz.func8,Tryz.ntmps8
  go_upto_region 3 with (first|((with_reducible refine gate_callee (f:=10) rfl ?_);refine gl_ (some 19) Tryz.func10 #[] (garboardlaw57_awake.calls k  true _ (HLW.out.below bx_) A4.out) ?_;clear HB;intro w7 hb HB;clear hb))
  (try simp only [Act.put,List.setIfInBounds_toArray,List.set_cons_zero,List.set_cons_succ])
  go_cut [27] (fun Fc wc=>∃ (kq:Nat) (Aj:Bool),Fc = .bool Aj∧Aside0 (garboardlaw57_RecordKept.j0 kq l0 a1 a2 Aj = some r)∧Aside0 (kq≤k)∧Aside0 (Below w.heap.size w wc))
  case first =>
   have H:=Dz.out
   clear Dz
   obtain ⟨De,A8,H⟩:=bn_ H
   by_cases c9:De = true
   ·subst c9
    rw [if_pos rfl] at H
    have H':=Aside0.mk H
    clear H
    go_wp2_with (first|((with_reducible refine gate_callee (f:=25) rfl ?_);refine gm_ (some 22) Tryz.func25 #[.slice A0 l0.length c0] ?_;(with_reducible refine (garboardlaw57_few.calls k _ _ l0 true _ ?side1 ?side2 A8.out).mono ?_);(case side1=>exact cx_ (Kd.C_below Du.out HB.out));(case side2=>exact Ea.out);rintro e Ed ⟨rfl,hb⟩;refine ⟨_,rfl,?_⟩;replace HB:=bs_ hb;(try clear hb)))
    go_meet
    case rel=>exact ⟨_,((a2 == 0)),rg_,H',⟨by first|omega|exact Nat.le_refl _⟩,⟨bx_⟩⟩
   ·replace c9:=Bool.eq_false_iff.mpr c9
    subst c9
    rw [if_neg Bool.false_ne_true] at H
    have H':=Aside0.mk H
    clear H
    go_wp2_with (first|((with_reducible refine gate_callee (f:=25) rfl ?_);refine gm_ (some 22) Tryz.func25 #[.slice A0 l0.length c0] ?_;(with_reducible refine (garboardlaw57_few.calls k _ _ l0 false _ ?side1 ?side2 A8.out).mono ?_);(case side1=>exact cx_ (Kd.C_below Du.out HB.out));(case side2=>exact Ea.out);rintro e Gd ⟨rfl,hb⟩;refine ⟨_,rfl,?_⟩;replace HB:=bs_ hb;(try clear hb)))
    go_meet
    case rel=>exact ⟨_,(true),rg_,H',⟨by first|omega|exact Nat.le_refl _⟩,⟨bx_⟩⟩
  case rest =>
   clear Dz
   try clear c5
   obtain ⟨kq,Aj,rfl,HA,Dw,HB⟩:=hcut
   cases kq with
   | zero=>exact absurd HA.out (by simp [garboardlaw57_RecordKept.j0])
   | succ kj5 =>
    have H:=HA.out
    clear HA
    simp only [garboardlaw57_RecordKept.j0] at H
    by_cases Cl:Aj = true
    ·subst Cl
     rw [if_pos rfl] at H
     obtain rfl:=Option.some.inj H
     go_wp2
     go_ret
     exact ⟨rf_,bx_⟩
    ·replace Cl:=Bool.eq_false_iff.mpr Cl
     subst Cl
     rw [if_neg Bool.false_ne_true] at H
     obtain ⟨Ac,Ft,H⟩:=bn_ H
     obtain ⟨Bt,Fs,H⟩:=bn_ H
     obtain ⟨⟨Ab,Ae⟩,Fr,H⟩:=bn_ H
     dsimp only at H
     have By:=Aside0.mk H
     clear H
     go_upto_region 7 with (first|((with_reducible refine gate_callee (f:=26) rfl ?_);refine gm_ (some 29) Tryz.func26 #[.slice A0 l0.length c0] ?_;(with_reducible refine (garboardlaw57_chain.calls kj5 _ _ l0 Ac _ ?side1 ?side2 ?side3 Ft.out).mono ?_);(case side1=>exact cx_ (Kd.C_below Du.out HB.out));(case side2=>exact Ea.out);(case side3=>exact HLW.out.below bx_);rintro e Fz ⟨Fa,rfl,Am,hb⟩;refine ⟨_,rfl,?_⟩;have Ad:=Aside0.mk (Kd.S_lower Am (below_size bx_));replace HB:=bs_ hb;(try clear hb);(try clear Am);obtain ⟨Bj,Bi,Ds⟩:=Kd.S_slice Ad.out;subst Ds)|((with_reducible refine gate_callee (f:=20) rfl ?_);refine gm_ (some 32) Tryz.func20 #[.slice Bj Ac.length Bi] ?_;(with_reducible refine (garboardref57_Copy.calls kj5 _ _ Ac Bt _ ?side1 ?side2 Fs.out).mono ?_);(case side1=>exact cx_ ((Kd.S_reads' Ad.out).2.2));(case side2=>exact (Kd.S_reads' Ad.out).2.1);rintro e Fy ⟨Ez,rfl,Am,hb⟩;refine ⟨_,rfl,?_⟩;have Ai:=Aside0.mk (Kd.S_lower (Kd.S_new' Am (Kd.S_lt (by (with_reducible repeat (first|apply Kd.S_alloc|apply Kd.S_drewN|apply Kd.S_drew));exact Ad.out))) (below_size bx_));replace Ad:=Aside0.mk (Kd.S_elder' (by (with_reducible repeat (first|apply Kd.S_alloc|apply Kd.S_drewN|apply Kd.S_drew));exact Ad.out) (Kd.S_base Am) hb);replace HB:=bs_ hb;(try clear hb);(try clear Am);obtain ⟨Ec,Dt,Dr⟩:=Kd.S_slice Ai.out;subst Dr)|((with_reducible refine gate_callee (f:=19) rfl ?_);refine gm_ (some 33) Tryz.func19 #[.slice Ec Bt.length Dt] ?_;(with_reducible refine (record_Write.calls kj5 _ _ Bt Ab Ae _ ?side1 ?side2 ?side3 Fr.out).mono ?_);(case side1=>exact cx_ ((Kd.S_reads' Ai.out).2.2));(case side2=>exact (Kd.S_reads' Ai.out).2.1);(case side3=>exact HLW.out.below bx_);rintro e Fx ⟨rfl,hb⟩;refine ⟨_,rfl,?_⟩;replace Ad:=Aside0.mk (Kd.S_below (by (with_reducible repeat (first|apply Kd.S_alloc|apply Kd.S_drewN|apply Kd.S_drew));exact Ad.out) hb);replace Ai:=Aside0.mk (Kd.S_below (by (with_reducible repeat (first|apply Kd.S_alloc|apply Kd.S_drewN|apply Kd.S_drew));exact Ai.out) hb);replace HB:=bs_ hb;(try clear hb)))
     (try simp only [Act.put,List.setIfInBounds_toArray,List.set_cons_zero,List.set_cons_succ])
     go_cut [41] (fun Fb wc=>∃ (kq:Nat) (Ag:Bool),Fb = .bool Ag∧Aside0 (garboardlaw57_RecordKept.j1 kq a1 a2 Ac Ab Ae Ag = some r)∧Aside0 (kq≤kj5)∧Aside0 (Kd.S k52 52 wc w.heap.size (fun _=>True) (.slice Bj Ac.length Bi) Ac)∧Aside0 (Below w.heap.size w wc))
     case first =>
      have H:=By.out
      clear By
      by_cases Bx:Ae = 0
      ·rw [if_pos Bx] at H
       have Ah:(Ae == 0) = true:=beq_iff_eq.mpr Bx
       have Ck:(Ae != 0) = false:=bne_eq_false_iff_eq.mpr Bx
       clear Bx
       (first|rw [Ah]|(simp only [i64_w,i32_w];rw [Ah])|skip)
       have H':=Aside0.mk H
       clear H
       go_wp2
       go_meet
       case rel=>exact ⟨_,((Ab.toList == ([]:List UInt8))),rg_,H',⟨by have:=Dw.out;first|omega|exact Nat.le_refl _⟩,⟨by (with_reducible repeat (first|apply Kd.S_alloc|apply Kd.S_drewN|apply Kd.S_drew));exact Kd.S_mono Ad.out (fun _ hk=>trivial)⟩,⟨bx_⟩⟩
      ·rw [if_neg Bx] at H
       have Ah:(Ae == 0) = false:=beq_eq_false_iff_ne.mpr Bx
       have Ck:(Ae != 0) = true:=bne_iff_ne.mpr Bx
       (first|rw [Ah]|(simp only [i64_w,i32_w];rw [Ah])|skip)
       have H':=Aside0.mk H
       clear H
       go_wp2
       go_meet
       case rel=>exact ⟨_,(true),rg_,H',⟨by have:=Dw.out;first|omega|exact Nat.le_refl _⟩,⟨by (with_reducible repeat (first|apply Kd.S_alloc|apply Kd.S_drewN|apply Kd.S_drew));exact Kd.S_mono Ad.out (fun _ hk=>trivial)⟩,⟨bx_⟩⟩
     case rest =>
      clear By
      try clear c5
      try clear Cl
      obtain ⟨kq,Ag,rfl,HA,Dx,Ap,HB⟩:=hcut
      cases kq with
      | zero=>exact absurd HA.out (by simp [garboardlaw57_RecordKept.j1])
      | succ kj15 =>
       have H:=HA.out
       clear HA
       simp only [garboardlaw57_RecordKept.j1] at H
       by_cases Cy:Ag = true
       ·subst Cy
        rw [if_pos rfl] at H
        by_cases Bw:Ae = 0
        ·rw [if_pos Bw] at H
         have Cj:(Ae == 0) = true:=beq_iff_eq.mpr Bw
         have Ci:(Ae != 0) = false:=bne_eq_false_iff_eq.mpr Bw
         clear Bw
         obtain rfl:=Option.some.inj H
         go_wp2
         go_ret
         exact ⟨rf_,bx_⟩
        ·rw [if_neg Bw] at H
         have Cj:(Ae == 0) = false:=beq_eq_false_iff_ne.mpr Bw
         have Ci:(Ae != 0) = true:=bne_iff_ne.mpr Bw
         exact absurd (Option.some.inj H) (by rw [HRT.out];decide)
       ·replace Cy:=Bool.eq_false_iff.mpr Cy
        subst Cy
        rw [if_neg Bool.false_ne_true] at H
        by_cases Cx:(Ab.size:Int) = 0
        ·rw [if_pos Cx] at H
         exact absurd H sm_
        ·rw [if_neg Cx] at H
         have Ej:((Ab.size:Int) == 0) = false:=beq_eq_false_iff_ne.mpr Cx
         have Ei:((Ab.size:Int) != 0) = true:=bne_iff_ne.mpr Cx
         obtain ⟨Br,Ep,H⟩:=bn_ H
         obtain ⟨⟨Aa,As⟩,Fq,H⟩:=bn_ H
         dsimp only at H
         have Dy:=Aside0.mk H
         clear H
         obtain ⟨⟨Cg,Cf,Cb⟩,An⟩:=bent_ok Ep.out
         have Dp:∀ W,(convert 9 57 (.string Ab)).run Tryz.prog W = .ok (.slice (some ⟨W.heap.size,0,none⟩) Ab.size (grownCap W Ab.size 0 5)) (Lib.bytesWorld W 5 Ab):=fun W=>Lib.run_convert_string_bytes W 9 57 5 Ab Tryz.underlying9 Tryz.underlying57 Tryz.underlying5
         go_upto_region 11 with (fail)
         clear Dp
         generalize (Int.tmod (wrap64 (a1)) (Ab.size:Int)) = ix at Dy Cg Cf An ⊢
         obtain ⟨i,rfl⟩:∃ i:Nat,ix = (i:Int):=⟨ix.toNat,by omega⟩
         obtain ⟨Dg,Do,hb,Ak⟩:=bent_all wc Ab i (by omega) Cb (Go.bits .xor .u8 (rd (bytesOf Ab) (i:Int)) a2)
         rw [show strOfNums ((bytesOf Ab).set i (Go.bits .xor .u8 (rd (bytesOf Ab) (i:Int)) a2)) = Br from An] at Ak
         have Fh:i < Ab.size:=by omega
         generalize Lib.bytesWorld wc 5 Ab = W1 at Dg Do hb Ak ⊢
         generalize grownCap wc Ab.size 0 5 = Fo at Ak ⊢
         clear An Cb Ep
         have HBn:=Aside0.mk hb
         clear hb
         generalize Fj:wc.heap.size = g_ at HBn Dg Do Ak ⊢
         go_upto_region 12 with (fail)
         have hb:=HBn.out
         clear HBn
         generalize W1.setCell ⟨g_,i,none⟩ (.int .u8 (Go.bits .xor .u8 (rd (bytesOf Ab) (i:Int)) a2)) = W2 at hb Ak ⊢
         rw [← Fj] at hb
         clear Dg Do Cg Cf
         replace Ap:=Aside0.mk (Kd.S_below Ap.out hb)
         replace HB:=bs_ hb
         clear hb
         have C7:=Aside0.mk (Kd.S_reads' Ap.out).2.2
         have L7:=Aside0.mk (Kd.S_reads' Ap.out).2.1
         clear Ap
         go_upto_region 13 with (first|((with_reducible refine gate_callee (f:=22) rfl ?_);refine gm_ (some 66) Tryz.func22 #[.string Br] ?_;(with_reducible refine (record_Recover.calls kj15 Br Aa As _ (HLW.out.below bx_) Fq.out).mono ?_);rintro e Fw ⟨Ey,rfl,Am,hb⟩;refine ⟨_,rfl,?_⟩;obtain ⟨Eb,Fm,Dq⟩:=Kd.S_slice Am;subst Dq;have Af:=Aside0.mk (Kd.S_reads' Am).2.2;have Ek:=Aside0.mk (Kd.S_reads' Am).2.1;replace C7:=Aside0.mk (Kd.C_below C7.out hb);replace HB:=bs_ hb;clear hb Am))
         clear Ak
         have H:=Dy.out
         clear Dy
         by_cases Bz:As≤(i:Int)
         ·rw [if_pos Bz] at H
          have Ch:decide (As≤(i:Int)) = true:=decide_eq_true Bz
          by_cases Bo:(Aa.length:Int)≤(Ac.length:Int)
          case neg=>rw [if_neg Bo] at H;exact absurd (Option.some.inj H) (by rw [HRT.out];decide)
          have Cw:(0:Int)≤(Aa.length:Int):=Int.natCast_nonneg _
          rw [if_pos Bo,if_pos Cw] at H
          have Eh:decide ((Aa.length:Int)≤(Ac.length:Int)) = true:=decide_eq_true Bo
          have Eg:decide (Aa.length≤Ac.length) = true:=decide_eq_true (Int.ofNat_le.mp Bo)
          obtain ⟨Dd,Eo,H⟩:=bn_ H
          obtain rfl:=Option.some.inj H
          clear H
          generalize Bm:Ac.take ((Aa.length:Int):Int).toNat = Bq at Eo
          have Fi:Aa.length≤Ac.length:=Int.ofNat_le.mp Bo
          obtain ⟨Fe,Bn,_,Cc,_⟩:=info_parts info52
          have Bv:=cut_to (P:=Tryz.prog) 37 52 .i64 Tryz.underlying37 Bn Bj Ac.length Bi (Aa.length:Int) Cw Bo L7.out
          have Bu:=Kd.C_take (m:=((Aa.length:Int):Int).toNat) C7.out (by omega)
          have Ca:Bq.length = ((Aa.length:Int):Int).toNat:=(by rw [← Bm,List.length_take];omega)
          rw [Bm] at Bu
          rw [← Ca] at Bv
          have Cm:=Aside0.mk Bu
          have Co:=Aside0.mk (show Bq.length≤Bi from by have:=L7.out;omega)
          have Gg:=eq_true Cw
          have Ge:=eq_true Bo
          clear Bu Bn Cc Ca Fi Bz Bo Cw
          go_wp2_with fail
          go_at_call 24
          refine (garboardref57_Same.calls kj15 _ _ Aa _ _ Bq Dd _ Af.out Ek.out Cm.out Co.out Eo.out).mono ?_
          rintro e Fv ⟨rfl,hb⟩
          replace HB:=bs_ hb
          clear hb
          go_wp2
          go_ret
          exact ⟨rf_,bx_⟩
         ·rw [if_neg Bz,if_pos (by decide)] at H
          have Ch:decide (As≤(i:Int)) = false:=decide_eq_false Bz
          have Ef:=eq_true (by decide:32≤281474976710656)
          clear Bz
          generalize Bl:List.replicate 32 (0:Int) = Dc at H
          have Bp:=Aside0.mk Bl.symm
          clear Bl
          have H':=Aside0.mk H
          clear H
          go_wp2_with (first|((with_reducible refine gate_dst (N:=85) rfl ?_);(try (refine gate_guard (by rfl) ?_;dsimp only));refine Kd.R_make (Kd.int .u8) _ 5 rfl (N:=85) rfl 57 _ _ rfl 32 rfl rfl Tryz.underlying57 (.int .u8 0) 1 info5 rfl de_ (by omega) 0 (ok:=fun _=>True) (okp:=fun _=>True) rfl (fun _ hk=>hk) trivial (by omega) (by omega) (Below.refl _ _) (Nat.le_refl _) ?_;intro Ex Fu Al hb Dn Ce;clear Dn Ce;(first|rw [← Bp.out] at Al|(simp only [Int.reduceToNat] at Al;rw [← Bp.out] at Al));have Cn:=Aside0.mk (Kd.R_lower Al (below_size bx_));replace C7:=Aside0.mk (Kd.C_below C7.out hb);replace Af:=Aside0.mk (Kd.C_below Af.out hb);replace HB:=bs_ hb;clear hb Al;have Ee:=own_string (P:=Tryz.prog) Tryz.underlying57 Tryz.underlying5 Tryz.underlying9 (Kd.own_of_R Cn.out)))
          have Dv:=Aside0.mk (show Aa.length≤9223372036854775807 from Af.out.2.1)
          go_loopg [14,89] kj15 (fun kq Fd Ew w'=>∃ (Bk:ByteArray) (i:Nat),Fd = .string Bk∧Ew = .int .i64 (i:Int)∧Aside0 (garboardlaw57_RecordKept.l0 kq Ac Aa Bk Aa (Aa.length:Int) (i:Int) = some r)∧Aside0 (i≤Aa.length)∧Aside0 (kq≤kj15)∧Aside0 (Kd.C k52 w' Bj Ac.length Ac)∧Aside0 (Kd.C k52 w' Eb Aa.length Aa)∧Aside0 (Below w.heap.size w w'))
          case atStart=>exact ⟨(strOfNums Dc),0,rg_,rg_,H',⟨Nat.zero_le _⟩,⟨Nat.le_refl _⟩,⟨cx_ C7.out⟩,⟨cx_ Af.out⟩,⟨bx_⟩⟩
          case round =>
           clear H' HB C7 Af
           obtain ⟨Bk,i,rfl,rfl,HA,HI,Em,C7,Af,HB⟩:=hrel
           cases gk with
           | zero=>exact absurd HA.out (by simp [garboardlaw57_RecordKept.l0])
           | succ k1=>
            have H:=HA.out
            clear HA
            simp only [garboardlaw57_RecordKept.l0] at H
            by_cases hlt:(i:Int) < (Aa.length:Int)
            ·have h0:(0:Int)≤(i:Int):=Int.natCast_nonneg i
             rw [if_pos hlt,if_pos h0,if_pos hlt] at H
             have El:=Aside0.mk (Below.refl wr.heap.size wr)
             obtain ⟨ad,A3,c3,A4,c4,A5,c5,e,Cv,Cu,Ct,Cs,Cr,Cq,Cp,G3,Db,G4,Da,G5,Cz⟩:=ao52_ Af El (i:Int) h0 hlt
             cases e
             simp only [Int.toNat_natCast] at Cv Cu Ct Cs Cr Cq Cp
             clear El
             generalize rd_T52 Aa (i:Int) = x at H Cv Cu Ct Cs Cr Cq Cp G3 Db G4 Da G5 Cz
             obtain ⟨⟨x0,x1,x2,x3,x4,x5⟩,x6⟩:=x
             dsimp only at H Cv Cu Ct Cs Cr Cq Cp G3 Db G4 Da G5 Cz
             obtain ⟨⟨b0,b1,b2,b3,b4,b5⟩,D1,H⟩:=bn_ H
             dsimp only at H
             obtain ⟨⟨t,te⟩,D2,H⟩:=bn_ H
             dsimp only at H
             by_cases hte:te = 0
             case neg=>
              rw [if_neg hte] at H
              exact absurd (Option.some.inj H) (by rw [HRT.out];decide)
             rw [if_pos hte] at H
             subst hte
             by_cases hsz:Bk.size + t.size≤9223372036854775807
             case neg=>rw [if_neg hsz] at H;cases H
             rw [if_pos hsz] at H
             obtain ⟨d,D3,H⟩:=bn_ H
             by_cases hdg:x6.toList = d.toList
             case neg=>
              rw [if_neg hdg] at H
              exact absurd (Option.some.inj H) (by rw [HRT.out];decide)
             rw [if_pos hdg] at H
             have HDG:=Aside0.mk hdg
             have HSZ:=Aside0.mk hsz
             have H':=Aside0.mk H
             have HLT:=Aside0.mk hlt
             clear H hdg hsz
             have Dm:decide ((i:Int) < (Aa.length:Int)) = true:=decide_eq_true hlt
             have Dl:decide (i < Aa.length) = true:=decide_eq_true (by omega)
             have p_:((0:Int)≤(i:Int)) = True:=eq_true h0
             have q_:((i:Int) < (Aa.length:Int)) = True:=eq_true hlt
             have Gf:(i < Aa.length) = True:=eq_true (by omega)
             clear hlt h0
             have Aq:=Aside0.mk (Below.refl wr.heap.size wr)
             go_upto_region 19 with (first|((with_reducible refine gate_dst (N:=16) rfl ?_);(try (refine gate_guard (by rfl) ?_;dsimp only));refine bv_ #[.int .i64 0,.int .i64 0,.int .i64 0,.slice none 0 0,.slice none 0 0,.slice none 0 0,.string (⟨#[]⟩:ByteArray)] 52 ?_;clear Aq;intro gx hg Ed BK GE hb Aq;clear hb hg;obtain ⟨Bh,Bg,Bf,Be,Bd,Bc,Bb,Ba,Ay,Ax,Aw,Av,Au,At⟩:=c7_ BK))
             generalize Dh:(((((((Ed.setCell ⟨gx,0,none⟩ (.int .i64 x0)).setCell ⟨gx,1,none⟩ (.int .i64 x1)).setCell ⟨gx,2,none⟩ (.int .i64 x2)).setCell ⟨gx,3,none⟩ (.slice A3 x3.length c3)).setCell ⟨gx,4,none⟩ (.slice A4 x4.length c4)).setCell ⟨gx,5,none⟩ (.slice A5 x5.length c5)).setCell ⟨gx,6,none⟩ (.string x6)) = Eu
             replace BK:Aside0 (Eu.heap[gx]? = some (.cells #[.int .i64 x0,.int .i64 x1,.int .i64 x2,.slice A3 x3.length c3,.slice A4 x4.length c4,.slice A5 x5.length c5,.string x6] 52 (0,0))):=gk_ Dh
             replace Aq:=gb_ Dh
             clear Dh Bh Bg Bf Be Bd Bc Bb Ba Ay Ax Aw Av Au At Cv Cu Ct Cs Cr Cq Cp
             replace HB:=Aside0.mk (below_step HB.out Aq.out)
             replace G3:=Aside0.mk (Kd.C_below G3.out Aq.out)
             replace G4:=Aside0.mk (Kd.C_below G4.out Aq.out)
             replace G5:=Aside0.mk (Kd.C_below G5.out Aq.out)
             replace C7:=Aside0.mk (Kd.C_below C7.out Aq.out)
             replace Af:=Aside0.mk (Kd.C_below Af.out Aq.out)
             clear Aq
             obtain ⟨Bh,Bg,Bf,Be,Bd,Bc,Bb,Ba,Ay,Ax,Aw,Av,Au,At⟩:=c7_ BK
             go_wp2_with fail
             go_at_call 13
             refine (garboardref57_CopyEvent.calls x0 x1 x2 _ _ x3 _ _ x4 _ _ x5 b0 b1 b2 b3 b4 b5 _ G3.out Db.out G4.out Da.out G5.out Cz.out D1.out).mono ?_
             rintro e Gc ⟨v3,v4,v5,rfl,Dk,Dj,Di,hb⟩
             obtain ⟨B3,d3,rfl⟩:=Kd.R_slice Dk
             obtain ⟨B4,d4,rfl⟩:=Kd.R_slice Dj
             obtain ⟨B5,d5,rfl⟩:=Kd.R_slice Di
             have H3:=Aside0.mk (Kd.R_reads' Dk).2
             have H4:=Aside0.mk (Kd.R_reads' Dj).2
             have H5:=Aside0.mk (Kd.R_reads' Di).2
             clear Dk Dj Di Bh Bg Bf Be Bd Bc Bb Ba Ay Ax Aw Av Au At
             replace BK:=bb_ BK hb
             replace C7:=Aside0.mk (Kd.C_below C7.out hb)
             replace Af:=Aside0.mk (Kd.C_below Af.out hb)
             replace HB:=Aside0.mk (below_step HB.out hb)
             clear hb G3 G4 G5 Db Da Cz
             go_wp2_with fail
             go_at_call 12
             refine (record_Encode.calls k1 b0 b1 b2 _ _ b3 _ _ b4 _ _ b5 t 0 _ H3.out.2 H3.out.1 H4.out.2 H4.out.1 H5.out.2 H5.out.1 (HLW.out.below HB.out) D2.out).mono ?_
             rintro e Et ⟨rfl,hb⟩
             replace BK:=bb_ BK hb
             replace C7:=Aside0.mk (Kd.C_below C7.out hb)
             replace Af:=Aside0.mk (Kd.C_below Af.out hb)
             replace HB:=Aside0.mk (below_step HB.out hb)
             clear hb H3 H4 H5
             go_upto_region 20 with (fail)
             replace BK:=dr_ BK
             replace HB:=db_ HB
             replace C7:=Aside0.mk (Kd.C_below C7.out (Below.drew (Below.refl _ _)))
             replace Af:=Aside0.mk (Kd.C_below Af.out (Below.drew (Below.refl _ _)))
             have Fl:(x6.toList == d.toList) = true:=beq_iff_eq.mpr HDG.out
             have Fk:(x6.toList != d.toList) = false:=bne_eq_false_iff_eq.mpr HDG.out
             have Es:(Bk.size + t.size≤9223372036854775807) = True:=eq_true HSZ.out
             have Er:(9223372036854775807 < Bk.size + t.size) = False:=eq_false (by have:=HSZ.out;omega)
             refine start_ (n:=11) (S:=fun w'=>w'.cell? ⟨gx,6,none⟩ = some (.string x6)) (ds:=[]) #[false,false,false,false,false,false,false,false,false,false,false] kr_ rfl rfl hc_ (fun Ao=>?_);refine with_tabW garboardlaw57_RecordKept.tab20 garboardlaw57_RecordKept.bits20 (fun Fp Gh=>?_)
             generalize Et.drew = W9 at BK HB C7 Af Ao ⊢
             refine pu_ 0 (some 100) (tt_ 11 1) ?_
             refine pu_ 1 (some 101) (tt_ 11 3) ?_
             refine pu_ 2 (some 102) (tt_ 11 7) ?_
             refine pu_ 3 (some 103) (tt_ 11 15) ?_
             refine pu_ 5 (some 105) (tt_ 11 47) ?_
             refine pu_ 6 (some 106) (tt_ 11 111) ?_
             refine pu_ 7 (some 107) (tt_ 11 239) ?_
             refine tk_ 4 (some 104) (tt_ 11 255) Ao ?_
             clear Es Er
             refine oc_ 8 (some 108) (tt_ 11 511) Tryz.func30 #[.string (Bk ++ t)] (fun K hK=>?_)
             with_reducible refine (record_Sum.calls (Bk ++ t) d _ D3.out).mono ?_
             rintro e Gb ⟨rfl,hb⟩
             refine ⟨_,rfl,?_⟩
             replace BK:=bb_ BK hb
             replace C7:=Aside0.mk (Kd.C_below C7.out hb)
             replace Af:=Aside0.mk (Kd.C_below Af.out hb)
             replace HB:=Aside0.mk (below_step HB.out hb)
             clear hb
             refine hk_ hK (fun Ao=>?_);clear hK K
             refine pu_ 9 (some 109) (tt_ 11 1023) ?_
             refine pu_ 10 (some 110) (tt_ 11 2047) ?_
             refine done_ (done_of Fp.out kr_) ?_
             clear Fl Fk
             obtain ⟨Bh,Bg,Bf,Be,Bd,Bc,Bb,Ba,Ay,Ax,Aw,Av,Au,At⟩:=c7_ BK
             go_wp2
             have HW:wrap64 ((i:Int) + 1) = ((i + 1:Nat):Int):=by have:=HLT.out;have:=Dv.out;unfold wrap64;omega
             go_roundg k1
             case measure=>have:=Dw.out;have:=Dx.out;have:=Em.out;omega
             case rel=>exact ⟨x6,i + 1,rfl,by rw [HW],⟨by rw [← HW];exact H'.out⟩,⟨by have:=HLT.out;omega⟩,⟨by have:=Em.out;omega⟩,C7,Af,HB⟩
            ·rw [if_neg hlt] at H
             have Dm:decide ((i:Int) < (Aa.length:Int)) = false:=decide_eq_false hlt
             have Dl:decide (i < Aa.length) = false:=decide_eq_false (by omega)
             clear hlt
             obtain ⟨b,D9,H⟩:=bn_ H
             obtain rfl:=Option.some.inj H
             clear H
             go_wp2_with fail
             go_at_call 24
             refine (garboardref57_Same.calls k1 _ _ Aa _ _ Ac b _ Af.out Ek.out C7.out L7.out D9.out).mono ?_
             rintro e Ga ⟨rfl,hb⟩
             replace HB:=Aside0.mk (below_step HB.out hb)
             clear hb
             go_wp2
             go_ret
             exact ⟨rf_,HB.out⟩
 ·replace c5:=Bool.eq_false_iff.mpr c5
  subst c5
  rw [if_neg Bool.false_ne_true] at H
  exact absurd (Option.some.inj H) (by rw [HRT.out];decide)
open Go.Lib Go.Proofs.YtcmbggahndfnnaaGreatDoor.NatTh
theorem awake_evk:Ev (fun k=>garboardlaw57_awake.f k) true:=⟨20,fun _ h=>awake_on h⟩
theorem xor_ne (x z:Int) (h0:0≤x) (h1:x < 256) (z0:0 < z) (z1:z < 256):Go.bits .xor .u8 x z≠x∧0≤Go.bits .xor .u8 x z∧Go.bits .xor .u8 x z < 256:=by
 obtain ⟨a,rfl⟩:∃ a:Nat,x = (a:Int):=⟨x.toNat,by omega⟩
 obtain ⟨b,rfl⟩:∃ b:Nat,z = (b:Int):=⟨z.toNat,by omega⟩
 have e:Go.bits .xor .u8 (a:Int) (b:Int) = ((a ^^^ b:Nat):Int):=by
  unfold Go.bits
  show Go.IntKind.u8.wrap ((BitVec.ofInt 8 (a:Int) ^^^ BitVec.ofInt 8 (b:Int)).toNat:Int) = _
  rw [BitVec.ofInt_natCast,BitVec.ofInt_natCast,BitVec.toNat_xor,BitVec.toNat_ofNat,BitVec.toNat_ofNat,Nat.mod_eq_of_lt (by omega),Nat.mod_eq_of_lt (by omega)]
  have:=Nat.xor_lt_two_pow (x:=a) (y:=b) (n:=8) (by omega) (by omega)
  rw [Go.IntKind.wrap_u8]
  omega
 have hlt:=Nat.xor_lt_two_pow (x:=a) (y:=b) (n:=8) (by omega) (by omega)
 rw [e]
 refine ⟨fun h=>?_,by omega,by omega⟩
 have h2:a ^^^ b = a:=by omega
 have h3:a ^^^ (a ^^^ b) = a ^^^ a:=by rw [h2]
 rw [← Nat.xor_assoc,Nat.xor_self,Nat.zero_xor] at h3
 omega
theorem bs_strOf (l:List Int):bs (strOfNums l) = l.map fun n=>UInt8.ofNat n.toNat:=rfl
theorem bytes_back (s:ByteArray):(bytesOf s).map (fun n=>UInt8.ofNat n.toNat) = bs s:=by
 unfold bytesOf bs
 rw [List.map_map]
 conv=>rhs;rw [← List.map_id s.data.toList]
 apply List.map_congr_left
 intro c _
 simp
theorem bent_bs (s:ByteArray) (i:Nat) (z:Int):bs (bentS s (i:Int) z) = (bs s).set i (UInt8.ofNat (Go.bits .xor .u8 (rd (bytesOf s) (i:Int)) z).toNat):=by
 unfold bentS
 rw [bs_strOf,Int.toNat_natCast,List.map_set,bytes_back]
theorem bent_other (s:ByteArray) (i n:Nat) (z:Int) (h:n≤i):(bs (bentS s (i:Int) z)).take n = (bs s).take n:=by
 rw [bent_bs,List.take_set_of_le h]
theorem bent_here (s:ByteArray) (i:Nat) (z:Int) (hi:i < s.size) (z0:0 < z) (z1:z < 256):bs (bentS s (i:Int) z)≠bs s:=by
 have hl:i < (bs s).length:=by rw [bs_length];exact hi
 have Aa:i < s.data.toList.length:=hi
 have hr:rd (bytesOf s) (i:Int) = (((bs s)[i]'hl).toNat:Int):=by
  unfold rd bytesOf
  rw [Int.toNat_natCast,List.getD_eq_getElem?_getD,List.getElem?_map,List.getElem?_eq_getElem Aa]
  rfl
 intro h
 have h1:(bs (bentS s (i:Int) z))[i]? = (bs s)[i]?:=by rw [h]
 rw [bent_bs,List.getElem?_set_self hl,List.getElem?_eq_getElem hl,hr] at h1
 have h2:=Option.some.inj h1
 have hb:=((bs s)[i]'hl).toNat_lt
 obtain ⟨x1,x2,x3⟩:=xor_ne (((bs s)[i]'hl).toNat:Int) z (by omega) (by omega) z0 z1
 have h3:=congrArg UInt8.toNat h2
 rw [ofNat_toNat (by omega)] at h3
 exact x1 (by omega)
theorem bent_size (s:ByteArray) (i:Nat) (z:Int):(bentS s (i:Int) z).size = s.size:=by rw [← bs_length,bent_bs,List.length_set,bs_length]
theorem toL_inj {a b:ByteArray} (h:a.toList = b.toList):a = b:=bs_inj (by rw [← toL a,← toL b];exact h)
theorem get_eq {α:Type} {d:α} {xs ys:List α} {i:Nat} (hl:xs.length = ys.length) (hi:i < xs.length) (c:xs.getD (i:Int).toNat d = ys.getD (i:Int).toNat d) (he:xs.take i = ys.take i):xs.take (i + 1) = ys.take (i + 1):=by
 rw [Int.toNat_natCast,List.getD_eq_getElem?_getD,List.getD_eq_getElem?_getD,List.getElem?_eq_getElem hi,List.getElem?_eq_getElem (hl ▸ hi)] at c
 rw [List.take_add_one,List.take_add_one,he,List.getElem?_eq_getElem hi,List.getElem?_eq_getElem (hl ▸ hi)]
 exact congrArg (fun z=>ys.take i ++ (some z).toList) c
abbrev sE2 (k:Nat) (i:Int) (a b:S26):=garboardref57_SameEvent.l2 k i a.f0 a.f1 a.f2 a.f3 a.f4 a.f5 b.f0 b.f1 b.f2 b.f3 b.f4 b.f5
theorem sameL2 (a b:S26) (h:Sm a) (hl:a.f5.length = b.f5.length):∀ (m i:Nat),i + m = a.f5.length→a.f5.take i = b.f5.take i→∃ r,Ev (fun k=>sE2 k (i:Int) a b) r∧(r = true→a.f5 = b.f5):=by
 obtain ⟨h3,h4,h5⟩:=h
 intro m
 induction m with
 | zero =>
  intro i hi he
  refine ⟨true,Ev.step (fun k=>by rw [sE2,garboardref57_SameEvent.l2,if_neg (by omega)]) (Ev.now _),fun _=>?_⟩
  rw [List.take_of_length_le (by omega),List.take_of_length_le (by omega)] at he
  exact he
 | succ m ih =>
  intro i hi he
  have hw:wrap64 ((i:Int) + 1) = ((i + 1:Nat):Int):=by unfold wrap64;omega
  have hst:∀ k,sE2 (k + 1) (i:Int) a b = if (rdOf ByteArray.empty a.f5 (i:Int)).toList = (rdOf ByteArray.empty b.f5 (i:Int)).toList then sE2 k ((i + 1:Nat):Int) a b else some false:=fun k=>by
   rw [sE2,garboardref57_SameEvent.l2,if_pos (by omega),if_pos (by omega),if_pos (by omega),hw]
  by_cases c:(rdOf ByteArray.empty a.f5 (i:Int)).toList = (rdOf ByteArray.empty b.f5 (i:Int)).toList
  ·obtain ⟨r,h1,h2⟩:=ih (i + 1) (by omega) (get_eq hl (by omega) (toL_inj c) he)
   exact ⟨r,Ev.step hst (ev_t c h1),h2⟩
  ·exact ⟨false,Ev.step hst (ev_e c (Ev.now _)),fun h=>by cases h⟩
abbrev sE1 (k:Nat) (i:Int) (a b:S26):=garboardref57_SameEvent.l1 k i a.f0 a.f1 a.f2 a.f3 a.f4 a.f5 b.f0 b.f1 b.f2 b.f3 b.f4 b.f5
theorem sameL1 (a b:S26) (h:Sm a) (hl4:a.f4.length = b.f4.length) (hl:a.f5.length = b.f5.length):∀ (m i:Nat),i + m = a.f4.length→a.f4.take i = b.f4.take i→∃ r,Ev (fun k=>sE1 k (i:Int) a b) r∧(r = true→a.f4 = b.f4∧a.f5 = b.f5):=by
 have hh:=h
 obtain ⟨h3,h4,h5⟩:=h
 intro m
 induction m with
 | zero =>
  intro i hi he
  rw [List.take_of_length_le (by omega),List.take_of_length_le (by omega)] at he
  obtain ⟨r,h1,h2⟩:=sameL2 a b hh hl a.f5.length 0 (by omega) rfl
  exact ⟨r,Ev.step (fun k=>by rw [sE1,garboardref57_SameEvent.l1,if_neg (by omega)];rfl) h1,fun hr=>⟨he,h2 hr⟩⟩
 | succ m ih =>
  intro i hi he
  have hw:wrap64 ((i:Int) + 1) = ((i + 1:Nat):Int):=by unfold wrap64;omega
  have hst:∀ k,sE1 (k + 1) (i:Int) a b = if (rdOf ByteArray.empty a.f4 (i:Int)).toList = (rdOf ByteArray.empty b.f4 (i:Int)).toList then sE1 k ((i + 1:Nat):Int) a b else some false:=fun k=>by
   rw [sE1,garboardref57_SameEvent.l1,if_pos (by omega),if_pos (by omega),if_pos (by omega),hw]
  by_cases c:(rdOf ByteArray.empty a.f4 (i:Int)).toList = (rdOf ByteArray.empty b.f4 (i:Int)).toList
  ·obtain ⟨r,h1,h2⟩:=ih (i + 1) (by omega) (get_eq hl4 (by omega) (toL_inj c) he)
   exact ⟨r,Ev.step hst (ev_t c h1),h2⟩
  ·exact ⟨false,Ev.step hst (ev_e c (Ev.now _)),fun h=>by cases h⟩
abbrev sE0 (k:Nat) (i:Int) (a b:S26):=garboardref57_SameEvent.l0 k i a.f0 a.f1 a.f2 a.f3 a.f4 a.f5 b.f0 b.f1 b.f2 b.f3 b.f4 b.f5
theorem sameL0 (a b:S26) (h:Sm a) (hl3:a.f3.length = b.f3.length) (hl4:a.f4.length = b.f4.length) (hl:a.f5.length = b.f5.length):∀ (m i:Nat),i + m = a.f3.length→a.f3.take i = b.f3.take i→∃ r,Ev (fun k=>sE0 k (i:Int) a b) r∧(r = true→a.f3 = b.f3∧a.f4 = b.f4∧a.f5 = b.f5):=by
 have hh:=h
 obtain ⟨h3,h4,h5⟩:=h
 intro m
 induction m with
 | zero =>
  intro i hi he
  rw [List.take_of_length_le (by omega),List.take_of_length_le (by omega)] at he
  obtain ⟨r,h1,h2⟩:=sameL1 a b hh hl4 hl a.f4.length 0 (by omega) rfl
  exact ⟨r,Ev.step (fun k=>by rw [sE0,garboardref57_SameEvent.l0,if_neg (by omega)];rfl) h1,fun hr=>⟨he,h2 hr⟩⟩
 | succ m ih =>
  intro i hi he
  have hw:wrap64 ((i:Int) + 1) = ((i + 1:Nat):Int):=by unfold wrap64;omega
  have hst:∀ k,sE0 (k + 1) (i:Int) a b = if rd a.f3 (i:Int) = rd b.f3 (i:Int) then sE0 k ((i + 1:Nat):Int) a b else some false:=fun k=>by
   rw [sE0,garboardref57_SameEvent.l0,if_pos (by omega),if_pos (by omega),if_pos (by omega),hw]
  by_cases c:rd a.f3 (i:Int) = rd b.f3 (i:Int)
  ·obtain ⟨r,h1,h2⟩:=ih (i + 1) (by omega) (get_eq hl3 (by omega) c he)
   exact ⟨r,Ev.step hst (ev_t c h1),h2⟩
  ·exact ⟨false,Ev.step hst (ev_e c (Ev.now _)),fun h=>by cases h⟩
theorem sameE_ex (a b:S26) (h:Sm a):∃ r,Ev (fun k=>garboardref57_SameEvent.f k a.f0 a.f1 a.f2 a.f3 a.f4 a.f5 b.f0 b.f1 b.f2 b.f3 b.f4 b.f5) r∧(r = true→a = b):=by
 have jt:∀ {x:Bool},x = true→Ev (fun k=>garboardref57_SameEvent.j0 k x a.f0 a.f1 a.f2 a.f3 a.f4 a.f5 b.f0 b.f1 b.f2 b.f3 b.f4 b.f5) false:=by rintro x rfl;exact Ev.step (fun k=>by rw [garboardref57_SameEvent.j0,if_pos rfl]) (Ev.now _)
 unfold garboardref57_SameEvent.f
 by_cases c0:a.f0 = b.f0
 ·by_cases c1:a.f1 = b.f1
  ·by_cases c2:a.f2 = b.f2
   ·by_cases c3:(a.f3.length:Int) = (b.f3.length:Int)
    ·by_cases c4:(a.f4.length:Int) = (b.f4.length:Int)
     ·by_cases c5:a.f5.length = b.f5.length
      ·obtain ⟨r,h1,h2⟩:=sameL0 a b h (by omega) (by omega) c5 a.f3.length 0 (by omega) rfl
       refine ⟨r,ev_t c0 (ev_t c1 (ev_t c2 (ev_t c3 (ev_t c4 ?_)))),fun hr=>?_⟩
       ·exact Ev.step (fun k=>by rw [garboardref57_SameEvent.j0,if_neg (by simp [c5])];rfl) h1
       ·obtain ⟨e3,e4,e5⟩:=h2 hr
        obtain ⟨a0,a1,a2,a3,a4,a5⟩:=a
        obtain ⟨b0,b1,b2,b3,b4,b5⟩:=b
        dsimp only at c0 c1 c2 e3 e4 e5
        subst c0 c1 c2 e3 e4 e5
        rfl
      ·exact ⟨false,ev_t c0 (ev_t c1 (ev_t c2 (ev_t c3 (ev_t c4 (jt (by simp;omega)))))),fun h=>by cases h⟩
     ·exact ⟨false,ev_t c0 (ev_t c1 (ev_t c2 (ev_t c3 (ev_e c4 (jt rfl))))),fun h=>by cases h⟩
    ·exact ⟨false,ev_t c0 (ev_t c1 (ev_t c2 (ev_e c3 (jt rfl)))),fun h=>by cases h⟩
   ·exact ⟨false,ev_t c0 (ev_t c1 (ev_e c2 (jt rfl))),fun h=>by cases h⟩
  ·exact ⟨false,ev_t c0 (ev_e c1 (jt rfl)),fun h=>by cases h⟩
 ·exact ⟨false,ev_e c0 (jt rfl),fun h=>by cases h⟩
theorem same_atx (l l':List S52) (h:∀ x ∈ l,Sm x.f0) (hl:l.length < 1000000) (hll:l.length = l'.length):∀ (m i:Nat),i + m = l.length→l.take i = l'.take i→∃ r,Ev (fun k=>garboardref57_Same.l0 k l l' (i:Int)) r∧(r = true→l = l'):=by
 intro m
 induction m with
 | zero =>
  intro i hi he
  rw [List.take_of_length_le (by omega),List.take_of_length_le (by omega)] at he
  exact ⟨true,Ev.step (fun k=>by rw [garboardref57_Same.l0,if_neg (by omega)]) (Ev.now _),fun _=>he⟩
 | succ m ih =>
  intro i hi he
  obtain ⟨x,hx⟩:∃ x,l[i]? = some x:=⟨l[i]'(by omega),List.getElem?_eq_getElem (by omega)⟩
  obtain ⟨y,hy⟩:∃ y,l'[i]? = some y:=⟨l'[i]'(by omega),List.getElem?_eq_getElem (by omega)⟩
  have hw:wrap64 ((i:Int) + 1) = ((i + 1:Nat):Int):=by unfold wrap64;omega
  have hst:∀ k,garboardref57_Same.l0 (k + 1) l l' (i:Int) = if x.f1.toList = y.f1.toList then ((garboardref57_SameEvent.f k x.f0.f0 x.f0.f1 x.f0.f2 x.f0.f3 x.f0.f4 x.f0.f5 y.f0.f0 y.f0.f1 y.f0.f2 y.f0.f3 y.f0.f4 y.f0.f5).bind fun Aa=>(if Aa = true then garboardref57_Same.l0 k l l' (((i + 1:Nat):Int)) else some false)) else some false:=fun k=>by
   rw [garboardref57_Same.l0,if_pos (by omega),if_pos (by omega),if_pos (by omega),rd52_at l i x hx,rd52_at l' i y hy,hw]
  by_cases c:x.f1.toList = y.f1.toList
  ·obtain ⟨r,h1,h2⟩:=sameE_ex x.f0 y.f0 (h x (List.mem_of_getElem? hx))
   by_cases cr:r = true
   ·have hxy:x = y:=by
     have e0:=h2 cr
     have e1:x.f1 = y.f1:=toL_inj c
     obtain ⟨x0,x1⟩:=x
     obtain ⟨y0,y1⟩:=y
     dsimp only at e0 e1
     rw [e0,e1]
    obtain ⟨r2,h3,h4⟩:=ih (i + 1) (by omega) (by rw [List.take_add_one,List.take_add_one,he,hx,hy,hxy])
    exact ⟨r2,Ev.step hst (ev_t c (h1.bind (ev_t cr h3))),h4⟩
   ·exact ⟨false,Ev.step hst (ev_t c (h1.bind (ev_e cr (Ev.now _)))),fun h=>by cases h⟩
  ·exact ⟨false,Ev.step hst (ev_e c (Ev.now _)),fun h=>by cases h⟩
theorem same_ex {l l':List S52} (h:∀ x ∈ l,Sm x.f0) (hl:l.length < 1000000):∃ r,Ev (fun k=>garboardref57_Same.f k l l') r∧(r = true→l = l'):=by
 unfold garboardref57_Same.f
 by_cases c:(l.length:Int) = (l'.length:Int)
 ·obtain ⟨r,h1,h2⟩:=same_atx l l' h hl (by omega) l.length 0 (by omega) rfl
  exact ⟨r,ev_t c h1,h2⟩
 ·exact ⟨false,ev_e c (Ev.now _),fun h=>by cases h⟩
theorem kept_loop {l got:List S52} (hR:Rt got) (hg:got.length≤1024) (hne:got≠l):∀ (m i:Nat),i + m = got.length→Ev (fun k=>garboardlaw57_RecordKept.l0 k l got (befB (got.take i)) got (got.length:Int) (i:Int)) true:=by
 intro m
 induction m with
 | zero =>
  intro i hi
  obtain ⟨r,h1,h2⟩:=same_ex (l':=l) hR.sm (by omega)
  have hr:r = false:=by
   cases r with
   | false=>rfl
   | true=>exact absurd (h2 rfl) hne
  subst hr
  refine Ev.step (fun k=>by rw [garboardlaw57_RecordKept.l0,if_neg (by omega)]) ?_
  exact h1.bind (f:=fun _ t=>some (!t)) (Ev.now _)
 | succ m ih =>
  intro i hi
  obtain ⟨x,hx⟩:∃ x,got[i]? = some x:=⟨got[i]'(by omega),List.getElem?_eq_getElem (by omega)⟩
  have c:=hR i x hx
  have hr:=rd52_at got i x hx
  have hb:=(hR.take i).bef
  have hz:=eB_len c.1
  have he:=encode_ev x.f0
  rw [encV_good c.1] at he
  unfold encF at he
  have h2:=ih (i + 1) (by omega)
  have hw:wrap64 ((i:Int) + 1) = ((i + 1:Nat):Int):=by unfold wrap64;omega
  have Ab:befB (got.take (i + 1)) = x.f1:=by
   rw [List.take_add_one,hx]
   unfold befB
   show (match (got.take i ++ [x]).getLast? with|none=>_|some y=>y.f1) = x.f1
   rw [List.getLast?_concat]
  rw [Ab,← hw] at h2
  have Aa:Ev (fun _=>record_Sum.f (befB (got.take i) ++ mkB (eB x.f0))) x.f1:=by
   unfold record_Sum.f
   rw [if_pos (by rw [ByteArray.size_append,hb,mkB_size];omega),c.2.2]
   exact Ev.now _
  refine Ev.step (fun k=>by rw [garboardlaw57_RecordKept.l0,if_pos (by omega),if_pos (by omega),if_pos (by omega),hr,copyE_eq c.1.sm,Option.bind_some]) ?_
  exact he.bind (ev_t rfl (ev_t (by show (befB (got.take i)).size + (mkB (eB x.f0)).size≤_;rw [hb,mkB_size];omega) (Aa.bind (ev_t rfl h2))))
theorem Kept_law (l0:List S26) (a1 a2:Int) (h:Ar l0) (w0:0≤a1) (w1:a1≤65535) (v0:0≤a2) (v1:a2≤255):Ev (fun k=>garboardlaw57_RecordKept.f k l0 a1 a2) true:=by
 unfold garboardlaw57_RecordKept.f
 refine awake_evk.bind (ev_t rfl ?_)
 obtain ⟨b,hb,hS⟩:=few_ex h
 refine hb.bind ?_
 have jt:∀ {x:Bool},x = true→Ev (fun k=>garboardlaw57_RecordKept.j0 k l0 a1 a2 x) true:=by rintro x rfl;exact Ev.step (fun k=>by rw [garboardlaw57_RecordKept.j0,if_pos rfl]) (Ev.now _)
 cases b with
 | false=>exact ev_e Bool.false_ne_true (jt rfl)
 | true =>
  refine ev_t rfl ?_
  cases hz:(a2 == 0) with
  | true=>exact jt rfl
  | false =>
   have hz':a2≠0:=fun e=>by rw [e] at hz;cases hz
   obtain ⟨Ad,hsm⟩:=hS rfl
   obtain ⟨l,hl,hR,Ag⟩:=chain_ev hsm Ad
   have hW:=write_ev hR (by omega)
   have hbl:=(recB_len l hR.ok).1
   have hlo:=(recB_len l hR.ok).2
   refine Ev.step (fun k=>by rw [garboardlaw57_RecordKept.j0,if_neg (by decide)]) ?_
   refine hl.bind ((copy_ev hR.sm (by omega)).bind (hW.bind (ev_t rfl ?_)))
   have hsz:(mkB (recB l)).size = (recB l).length:=mkB_size _
   dsimp only
   cases hn:((mkB (recB l)).toList == ([]:List UInt8)) with
   | true =>
    have h0:recB l = []:=by
     have:=beq_iff_eq.1 hn
     rw [toL,bs_mkB] at this
     exact this
    rw [h0] at hlo
    have Ah:l.length = 0:=by simp at hlo;omega
    refine Ev.step (fun k=>by rw [garboardlaw57_RecordKept.j1,if_pos rfl,if_pos rfl,Ah];rfl) (Ev.now _)
   | false =>
    have Ac:0 < (recB l).length:=by
     rcases Nat.eq_zero_or_pos (recB l).length with h0|h0
     ·have h1:recB l = []:=List.length_eq_zero_iff.1 h0
      rw [h1,toL] at hn
      cases hn
     ·exact h0
    obtain ⟨m,rfl⟩:∃ m:Nat,a1 = (m:Int):=⟨a1.toNat,by omega⟩
    have Ae:wrap64 (m:Int) = (m:Int):=by unfold wrap64;omega
    have htm:Int.tmod (wrap64 (m:Int)) ((mkB (recB l)).size:Int) = ((m % (recB l).length:Nat):Int):=by rw [Ae,hsz];rfl
    have hi:m % (recB l).length < (recB l).length:=Nat.mod_lt _ Ac
    generalize hI:m % (recB l).length = i at htm hi
    have hbt:Ev (fun _=>bytealg_MakeNoZero.f (mkB (recB l)) ((i:Nat):Int) a2) (bentS (mkB (recB l)) (i:Int) a2):=by
     unfold bytealg_MakeNoZero.f
     rw [if_pos ⟨by omega,by rw [hsz];omega,by rw [hsz];omega⟩]
     exact Ev.now _
    obtain ⟨got,hg,hRg,Aa,Ab,hbs,hst⟩:=recover_ev (bentS (mkB (recB l)) (i:Int) a2) (by rw [bent_size,hsz];omega)
    refine Ev.step (fun k=>by rw [garboardlaw57_RecordKept.j1,if_neg (by decide),if_neg (by rw [hsz];omega),htm]) ?_
    refine hbt.bind (hg.bind ?_)
    by_cases cn:((recB got).length:Int)≤(i:Int)
    ·have e1:recB l ++ [] = recB got ++ (recB l).drop (recB got).length:=by
      have h1:=bent_other (mkB (recB l)) i (recB got).length a2 (by omega)
      rw [hbs,List.take_left,bs_mkB] at h1
      rw [List.append_nil]
      conv=>lhs;rw [← List.take_append_drop (recB got).length (recB l),← h1]
     have key:got = l.take got.length∧got.length≤l.length:=by
      rcases rec_prefix l got _ _ hR.ok hRg.ok e1 with ⟨t,rfl⟩|⟨t,rfl⟩
      ·rw [recB_append,List.length_append] at cn
       omega
      ·exact ⟨by rw [List.take_left],by simp⟩
     refine ev_t cn (ev_t (by show (got.length:Int)≤(l.length:Int);have:=key.2;omega) (ev_t (by omega) ?_))
     dsimp only
     rw [Int.toNat_natCast,← key.1]
     exact (same_refl hRg.sm (by omega)).bind (Ev.now _)
    ·have hne:got≠l:=fun e=>by
      subst e
      have hlb:=congrArg List.length hbs
      rw [bs_length,bent_size,hsz,List.length_append] at hlb
      have Af:Ab = []:=List.length_eq_zero_iff.1 (by omega)
      rw [Af,List.append_nil,← bs_mkB (recB got)] at hbs
      exact bent_here (mkB (recB got)) i a2 (by rw [hsz];exact hi) (by omega) (by omega) hbs
     have hk:=kept_loop (l:=l) hRg Aa hne got.length 0 (by omega)
     exact ev_e cn (ev_t (by decide) hk)
end Go.Proofs.YtcmbggahndfnnaaGreatDoor.Pr
namespace Go.Proofs.YtcmbggahndfnnaaGreatDoor.Pr
open Go.ChangeShapes Go.WideShapes Go.ChangeAt Go.RowKit Go.Proofs.YtcmbggahndfnnaaGreatDoorW.PrintWords
set_option maxRecDepth 100000 in
theorem open_u16_recordKept {H:Type} {enc:TypeId × Value→H} {W:World} {r:Reach} {b0:Nat} {v:Value} {d:DataW H} {p:List MemPlace} (hv:Value.okWide Tryz.prog W r b0 55 v) (h:DataW.Trod enc Tryz.prog W 0 (fun _=>true) true 55 v d p):∃ s,v = .int .u16 s∧(Lit.int .u16 s).wf = true:=by
 obtain ⟨s,e,_,_,hw⟩:=open_int Tryz.underlying55 hv h
 exact ⟨s,e,hw⟩
set_option maxRecDepth 100000 in
theorem open_u8_recordKept {H:Type} {enc:TypeId × Value→H} {W:World} {r:Reach} {b0:Nat} {v:Value} {d:DataW H} {p:List MemPlace} (hv:Value.okWide Tryz.prog W r b0 5 v) (h:DataW.Trod enc Tryz.prog W 0 (fun _=>true) true 5 v d p):∃ s,v = .int .u8 s∧(Lit.int .u8 s).wf = true:=by
 obtain ⟨s,e,_,_,hw⟩:=open_int Tryz.underlying5 hv h
 exact ⟨s,e,hw⟩
set_option maxRecDepth 100000 in
theorem recordKept_lifted (os:Os) (started:os.Started) (H:Type) (enc:TypeId × Value→H) :
  ReturnsInHanded {} Tryz.checked os 8 .any (fun w args=>(Rows.recordKeptSpec.pre enc Tryz.prog Tryz.f8 [] false w args∧laidMetH Tryz.prog laid5 w)∧sizedMet enc Tryz.prog Tryz.f8 (OpenSpec.ofChange Rows.recordKeptSpec) false w args)
   (Rows.recordKeptSpec.post enc Tryz.prog Tryz.f8 false true false false):=by
 refine returnsInHanded_of_change_and (C:=Tryz.checked) (X:=fun w _=>laidMetH Tryz.prog laid5 w) (fun _ _ _ hh h=>h.of_heap hh) own started (by kernel_rfl) Tryz.func8
  (ChangeSpec.witness_shaped (enc:=enc) (C:=Tryz.checked) (os:=os) (X:=fun w _=>laidMetH Tryz.prog laid5 w) false (World.doorLaid Tryz.prog 400 os) #[.slice none 0 0,.int .u16 0,.int .u8 0] 8 rfl (World.shaped_of_RefB (by kernel_rfl) (by kernel_rfl)) (by kernel_rfl) (by kernel_rfl) (by kernel_rfl) (door_met os _)) ?_
 intro W base args ds gs Ad Ab hW _ _ hL _
 have Aa:∀ (j:Nat) t v,Tryz.f8.params[j]? = some t→args[j]? = some v→Value.okWide Tryz.prog W .any base t v:=Ab
 have hW':=hW
 obtain ⟨p,q,Af,hV,rfl,hfz,hnd⟩:=hW
 have hA:DataW.TrodAll enc Tryz.prog W 0 (fun _=>true) true Tryz.f8.params.toList args.toList ds p:=Af
 rw [Tryz.params8] at hA Aa
 obtain ⟨v0,Am,d0,Ap,p0,q0,Ae,rfl,rfl,h0,r0⟩:=trodAll_cons hA
 obtain ⟨v1,Al,d1,Ao,p1,q1,rfl,rfl,rfl,h1,r1⟩:=trodAll_cons r0
 obtain ⟨v2,Ak,d2,An,p2,q2,rfl,rfl,rfl,h2,r2⟩:=trodAll_cons r1
 obtain ⟨rfl,rfl,rfl⟩:=trodAll_nil r2
 obtain rfl:args = #[v0,v1,v2]:=by cases args;simp_all
 obtain ⟨rfl,rfl⟩:=trodVars_none hV
 have Ai:∀ x ∈ p0,x.block < W.heap.size:=by obtain ⟨m,hm⟩:=h0;exact DataW.trod_lt m _ _ _ hm
 have Ah:∀ x ∈ p1,x.block < W.heap.size:=by obtain ⟨m,hm⟩:=h1;exact DataW.trod_lt m _ _ _ hm
 have Ag:∀ x ∈ p2,x.block < W.heap.size:=by obtain ⟨m,hm⟩:=h2;exact DataW.trod_lt m _ _ _ hm
 have k0:=h0
 have k1:=h1
 have k2:=h2
 obtain ⟨A0,Ac,a0,rfl,Aj,C0,z0⟩:=openEs h0 (okWide_slice Tryz.underlying45 (Aa 0 45 v0 rfl rfl))
 obtain ⟨a1,rfl,w1⟩:=open_u16_recordKept (Aa 1 55 v1 rfl rfl) h1
 obtain ⟨a2,rfl,w2⟩:=open_u8_recordKept (Aa 2 5 v2 rfl rfl) h2
 have hT:=laid_tab hL
 clear Af Ab Aa
 obtain ⟨k,hk⟩:=(Kept_law a0 a1 a2 (fun e he=>⟨Nat.lt_of_le_of_lt (z0 e he).2.1 (by decide),Nat.lt_of_le_of_lt (z0 e he).2.2.1 (by decide)⟩) ((Lit.wf_int_iff .u16 a1).1 w1).1 ((Lit.wf_int_iff .u16 a1).1 w1).2 ((Lit.wf_int_iff .u8 a2).1 w2).1 ((Lit.wf_int_iff .u8 a2).1 w2).2).rounds
 refine (garboardlaw57_RecordKept.calls k A0 Ac a0 a1 a2 true W C0 Aj hT hk rfl).mono fun e W' ⟨he,bel⟩=>?_
 subst he
 exact ⟨_,rfl,_,_,_,[],_,[],hW',trodAll_mk1 (shut_bool Tryz.underlying4 _),(trodAll_cons_mk (Below.trod laidOut (by kernel_rfl) (of_decide_eq_true (by kernel_rfl)) k0 bel Ai) (trodAll_cons_mk (Below.trod laidOut (by kernel_rfl) (of_decide_eq_true (by kernel_rfl)) k1 bel Ah) (trodAll_cons_mk (Below.trod laidOut (by kernel_rfl) (of_decide_eq_true (by kernel_rfl)) k2 bel Ag) trodAll_mk0))),rfl,bel.frame _,fun h=>by cases h⟩
theorem recordKept_row:Rows.RecordKeptSaid :=
 OpenClaim.holds_of_wide 8 Tryz.f8 rfl rfl rfl rfl rfl rfl rfl ⟨rfl,rfl,rfl,rfl,rfl⟩ rfl rfl rfl rfl rfl (by kernel_rfl) Tryz.func8 (by kernel_rfl)
  (of_decide_eq_true (by kernel_rfl)) (by unfold Func.isWrapper;first|(rw [if_pos (by decide +kernel)];kernel_rfl)|(rw [if_neg (by decide +kernel)];exact ⟨rfl,rfl⟩))
  (fun os started H enc _=>recordKept_lifted os started H enc)
end Go.Proofs.YtcmbggahndfnnaaGreatDoor.Pr
namespace Go.Proofs.YtcmbggahndfnnaaGreatDoor
open Go
theorem recordKept_card_holds:Rows.RecordKeptCardSaid :=
 Claim7.holds_tied_plain_at .later [] [.data,.data,.data,.sentinel,.sentinel] true (true, "530430785d8fc1b95937d3c83c748bc57a44dc57239518a96d9fcf3156f792ad") true
  Pr.recordKept_row (fun _ h=>by cases h) (by kernel_rfl) (fun _ h=>by cases h) recordKept_row_tie rfl ⟨rfl,rfl⟩ (by kernel_rfl) rfl
  (fun f fn hf hfn=>by
   obtain rfl:f = 8:=Option.some.inj ((show Tryz.prog.funcNamed "garboard/garboardlaw57.RecordKept" = some 8 by kernel_rfl).symm.trans hf) |>.symm
   obtain rfl:fn = Tryz.f8:=(Option.some.inj (Tryz.func8.symm.trans hfn)).symm
   exact ⟨by kernel_rfl,fun j t ht=>by
    rw [Tryz.params8] at ht
    have hm:t ∈ [45,55,5]:=by simpa using Array.mem_of_getElem? ht
    have Aa:([45,55,5].all fun u=>!Tryz.prog.wantsStandIn u) = true:=by kernel_rfl
    exact (show Tryz.prog.wantsStandIn t = false by simpa using List.all_eq_true.1 Aa t hm)⟩)
  (by kernel_rfl)
end Go.Proofs.YtcmbggahndfnnaaGreatDoor
