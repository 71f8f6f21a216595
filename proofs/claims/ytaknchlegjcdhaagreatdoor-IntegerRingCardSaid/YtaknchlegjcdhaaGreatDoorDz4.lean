/- Part 4 of 5: walks and laws of the functions of chapter 02 (integers as text), which the last part joins; no condition beyond those of the theorem there. The words of the print (W..) are the kit's, cut down by program to what is used here. -/
import Derived.Deep.RegionHeld3
import Derived.Great.BuildSlice
import Derived.Test.YtaknchlegjcdhaaGreatDoorDz3
set_option maxHeartbeats 8000000
set_option maxRecDepth 100000
set_option linter.unusedVariables false
set_option linter.unusedSimpArgs false
namespace Go.Proofs.YtaknchlegjcdhaaGreatDoor.Pr
open Go.RowKit Go.Proofs.YtaknchlegjcdhaaGreatDoorW.PrintWords Go.Proofs.YtaknchlegjcdhaaGreatDoorW.PrintLast Go.Proofs.YtaknchlegjcdhaaGreatDoorW.PrintMore
attribute [local go_sem] max2_int min2_int max_two min_two max_three min_three max_four min_four
theorem times_own (k:Nat) (A0:Option Addr) (c0:Nat) (l0:List Int) (A1:Option Addr) (c1:Nat) (l1:List Int) (r:List Int) (w:World) (hr0:Kd.C (Kd.int .u32) w A0 l0.length l0) (hc0:l0.length≤c0) (hr1:Kd.C (Kd.int .u32) w A1 l1.length l1) (hc1:l1.length≤c1) (h:natural_num_times.f k l0 l1 = some r) :
  Calls Tryz.prog 96 #[.slice A0 l0.length c0,.slice A1 l1.length c1] w fun e w'=>∃ v0_:Value,e = .returned (v0_)∧Kd.R (Kd.int .u32) 95 w' w.heap.size (fun k_=>(w.heap.size≤k_)) v0_ r∧Below w.heap.size w w':=by
 have HR0:=Aside0.mk hr0
 have HC0:=Aside0.mk hc0
 clear hr0 hc0
 have HR1:=Aside0.mk hr1
 have HC1:=Aside0.mk hc1
 clear hr1 hc1
 have HB:=Aside0.mk (Below.refl w.heap.size w)
 have H:(if 0≤(wrap64 ((l0.length:Int) + (l1.length:Int))) then (if (wrap64 ((l0.length:Int) + (l1.length:Int)):Int).toNat≤70368744177664 then (natural_num_times.l0 k l1 (List.replicate (wrap64 ((l0.length:Int) + (l1.length:Int)):Int).toNat 0) l0 (l0.length:Int) 0) else (none)) else (none)) = some r:=h
 clear h
 obtain ⟨ji3,hji3⟩:∃ j_:Int,(wrap64 ((l0.length:Int) + (l1.length:Int))) = j_:=⟨_,rfl⟩
 replace H:(if 0≤(ji3) then (if (ji3:Int).toNat≤70368744177664 then (natural_num_times.l0 k l1 (List.replicate (ji3:Int).toNat 0) l0 (l0.length:Int) 0) else (none)) else (none)) = some r:=by first|(rw [hji3] at H;exact H)|(simp only [hji3] at H ⊢;exact H)
 have hji3w:(IntKind.i64.wrap ((l0.length:Int) + (l1.length:Int))) = ji3:=(i64_w _).trans hji3
 by_cases c4:0≤(ji3)
 ·rw [if_pos c4] at H
  have c4b0:=eq_true c4
  have c4b1:decide (0≤(ji3)) = true:=decide_eq_true c4
  clear c4
  by_cases c5:(ji3:Int).toNat≤70368744177664
  ·rw [if_pos c5] at H
   have c5b0:=eq_true c5
   have c5b1:decide ((ji3:Int).toNat≤70368744177664) = true:=decide_eq_true c5
   clear c5
   obtain ⟨y171,hy171⟩:∃ y_:List Int,y_ = (List.replicate (ji3:Int).toNat 0):=⟨_,rfl⟩
   replace H:(natural_num_times.l0 k l1 y171 l0 (l0.length:Int) 0) = some r:=by first|(rw [hy171];with_reducible exact H)|(have H2_:=(Option.bind_some _ _).symm.trans H;rw [hy171];with_reducible exact H2_)|(have H2_:=(Option.bind_some _ _).symm.trans H;with_reducible exact H2_)|with_reducible exact H|(rw [hy171];exact H)|exact H
   have Ny171:=Aside0.mk hy171
   clear hy171
   have H':=Aside0.mk H
   clear H
   go_enter Tryz.func96,Tryz.ntmps96
   go_wp2_with (first|((with_reducible refine gate_dst (N:=16) rfl ?_);refine Kd.R_make (Kd.int .u32) _ 95 rfl (N:=16) rfl 74 _ _ rfl ji3 rfl rfl Tryz.underlying74 (.int .u32 0) 4 info95 rfl de_ (by omega) 0 (ok:=fun _=>True) (okp:=fun _=>True) rfl (fun _ hk=>hk) trivial (of_decide_eq_true (by first|(with_reducible assumption)|assumption)) (Nat.le_trans (Nat.mul_le_mul_right _ (of_decide_eq_true (by first|(with_reducible assumption)|assumption):ji3.toNat≤70368744177664)) (by omega)) (Below.refl _ _) (Nat.le_refl _) ?_;intro v172 w6 ho7 hb hg_ hnew_;clear hg_ hnew_;(first|rw [← Ny171.out] at ho7|(simp only [Int.reduceToNat] at ho7;rw [← Ny171.out] at ho7));have HO173:=Aside0.mk (Kd.R_lower (Kd.R_newM (M:=fun k_=>(w.heap.size≤k_)) ho7 (below_size bx_) (fun k_ h_=>h_)) (below_size bx_));replace HB:=bs_ hb;clear hb ho7))
   go_loopg [19] k (fun kq v19 w'=>∃ (x5_1:List Int) (x19_1:Int),v19 = .int .i64 x19_1∧Aside0 (natural_num_times.l0 kq l1 x5_1 l0 (l0.length:Int) x19_1 = some r)∧Aside0 (kq≤k)∧Aside0 (Kd.R (Kd.int .u32) 95 w' w.heap.size (fun k_=>(w.heap.size≤k_)) v172 x5_1)∧Aside0 (Below w.heap.size w w'))
   case atStart=>exact ⟨(y171),(0),(by first|rfl|(simp;done)|(simp [*];done)),H',⟨Nat.le_refl _⟩,⟨by (with_reducible repeat (first|apply Kd.R_alloc|apply Kd.R_drewN|apply Kd.R_drew));exact Kd.R_mono HO173.out (fun _ hk=>hk.1)⟩,⟨bx_⟩⟩
   case round =>
    clear H'
    try clear c1
    try clear p2
    try clear c4
    try clear c4b0
    try clear c4b1
    try clear c5
    try clear c5b0
    try clear c5b1
    try clear p6
    obtain ⟨x5_1,x19_1,rfl,HA,HK1,HO_5,HB⟩:=hrel
    cases gk with
    | zero=>exact absurd HA.out (by simp [natural_num_times.l0])
    | succ k1 =>
     have H:=HA.out
     clear HA
     simp only [natural_num_times.l0] at H
     by_cases c8:x19_1 < (l0.length:Int)
     ·rw [if_pos c8] at H
      have c8b0:decide (x19_1 < (l0.length:Int)) = true:=decide_eq_true c8
      clear c8
      by_cases c9:0≤x19_1
      ·rw [if_pos c9] at H
       have c9b0:decide (0≤x19_1) = true:=decide_eq_true c9
       clear c9
       by_cases c10:x19_1 < (l0.length:Int)
       ·rw [if_pos c10] at H
        have c10b0:decide (x19_1 < (l0.length:Int)) = true:=decide_eq_true c10
        clear c10
        have H':=Aside0.mk H
        clear H
        have p177:0≤(x19_1:Int):=da_
        have q177:x19_1 < (l0.length:Int):=da_
        obtain ⟨ad177,e177,hx177_0⟩:=Kd.at_int HR0.out x19_1 p177 q177
        cases e177
        replace hx177_0:=(HB.out.cell (World.block_lt_of_cell? w _ hx177_0)).trans hx177_0
        replace p177:=eq_true p177
        replace q177:=eq_true q177
        go_wp2
        go_loopg [8,26] k1 (fun kq v8 v26 w'=>∃ (x5_2:List Int) (x8_2:Int) (x26_2:Int),v8 = .int .u64 x8_2∧v26 = .int .i64 x26_2∧Aside0 (natural_num_times.l1 kq l1 x5_2 x19_1 (rd l0 x19_1) x8_2 l0 (l0.length:Int) x19_1 l1 (l1.length:Int) x26_2 = some r)∧Aside0 (kq≤k1)∧Aside0 (Kd.R (Kd.int .u32) 95 w' w.heap.size (fun k_=>(w.heap.size≤k_)) v172 x5_2)∧Aside0 (Below w.heap.size w w'))
        case atStart=>exact ⟨(x5_1),(0),(0),(by first|rfl|(simp;done)|(simp [*];done)),(by first|rfl|(simp;done)|(simp [*];done)),H',⟨Nat.le_refl _⟩,⟨by (with_reducible repeat (first|apply Kd.R_alloc|apply Kd.R_drewN|apply Kd.R_drew));exact HO_5.out⟩,⟨bx_⟩⟩
        case round =>
         clear H'
         try clear c1
         try clear p1
         try clear q1
         try clear hx1
         try clear p2
         try clear c4
         try clear c4b0
         try clear c4b1
         try clear c5
         try clear c5b0
         try clear c5b1
         try clear p6
         try clear c8
         try clear c8b0
         try clear c9
         try clear c9b0
         try clear c10
         try clear c10b0
         try clear hx177_0
         try clear p177
         try clear p2
         try clear p6
         try clear q177
         obtain ⟨x5_2,x8_2,x26_2,rfl,rfl,HA,HK2,HO_5,HB⟩:=hrel
         cases gk with
         | zero=>exact absurd HA.out (by simp [natural_num_times.l1])
         | succ k2 =>
          have H:=HA.out
          clear HA
          simp only [natural_num_times.l1] at H
          by_cases c11:x26_2 < (l1.length:Int)
          ·rw [if_pos c11] at H
           have c11b0:decide (x26_2 < (l1.length:Int)) = true:=decide_eq_true c11
           clear c11
           by_cases c12:0≤x26_2
           ·rw [if_pos c12] at H
            have c12b0:decide (0≤x26_2) = true:=decide_eq_true c12
            clear c12
            by_cases c13:x26_2 < (l1.length:Int)
            ·rw [if_pos c13] at H
             have c13b0:decide (x26_2 < (l1.length:Int)) = true:=decide_eq_true c13
             clear c13
             obtain ⟨ji14,hji14⟩:∃ j_:Int,(wrap64 (x19_1 + x26_2)) = j_:=⟨_,rfl⟩
             replace H:(if 0≤(ji14) then (if (ji14) < (x5_2.length:Int) then (natural_num_times.l1 k2 l1 (x5_2.set ((ji14):Int).toNat ((Int.tmod (IntKind.u64.wrap (x8_2 + (IntKind.u64.wrap ((IntKind.u64.wrap ((IntKind.u64.wrap ((rd l0 x19_1))) * (IntKind.u64.wrap (rd l1 x26_2)))) + (IntKind.u64.wrap (rd x5_2 (ji14))))))) 1000000000) % 4294967296)) x19_1 (rd l0 x19_1) (IntKind.u64.wrap (Int.tdiv (IntKind.u64.wrap (x8_2 + (IntKind.u64.wrap ((IntKind.u64.wrap ((IntKind.u64.wrap ((rd l0 x19_1))) * (IntKind.u64.wrap (rd l1 x26_2)))) + (IntKind.u64.wrap (rd x5_2 (ji14))))))) 1000000000)) l0 (l0.length:Int) x19_1 l1 (l1.length:Int) (wrap64 (x26_2 + 1))) else (none)) else (none)) = some r:=by first|(rw [hji14] at H;exact H)|(simp only [hji14] at H ⊢;exact H)
             have hji14w:(IntKind.i64.wrap (x19_1 + x26_2)) = ji14:=(i64_w _).trans hji14
             by_cases c15:0≤(ji14)
             ·rw [if_pos c15] at H
              have c15b0:decide (0≤(ji14)) = true:=decide_eq_true c15
              clear c15
              by_cases c16:(ji14) < (x5_2.length:Int)
              ·rw [if_pos c16] at H
               have c16b0:decide ((ji14) < (x5_2.length:Int)) = true:=decide_eq_true c16
               clear c16
               obtain ⟨y180,hy180⟩:∃ y_:List Int,y_ = (x5_2.set ((ji14):Int).toNat ((Int.tmod (IntKind.u64.wrap (x8_2 + (IntKind.u64.wrap ((IntKind.u64.wrap ((IntKind.u64.wrap ((rd l0 x19_1))) * (IntKind.u64.wrap (rd l1 x26_2)))) + (IntKind.u64.wrap (rd x5_2 (ji14))))))) 1000000000) % 4294967296)):=⟨_,rfl⟩
               replace H:(natural_num_times.l1 k2 l1 y180 x19_1 (rd l0 x19_1) (IntKind.u64.wrap (Int.tdiv (IntKind.u64.wrap (x8_2 + (IntKind.u64.wrap ((IntKind.u64.wrap ((IntKind.u64.wrap ((rd l0 x19_1))) * (IntKind.u64.wrap (rd l1 x26_2)))) + (IntKind.u64.wrap (rd x5_2 (ji14))))))) 1000000000)) l0 (l0.length:Int) x19_1 l1 (l1.length:Int) (wrap64 (x26_2 + 1))) = some r:=by first|(rw [hy180];with_reducible exact H)|(have H2_:=(Option.bind_some _ _).symm.trans H;rw [hy180];with_reducible exact H2_)|(have H2_:=(Option.bind_some _ _).symm.trans H;with_reducible exact H2_)|with_reducible exact H|(rw [hy180];exact H)|exact H
               have Ny180:=Aside0.mk hy180
               clear hy180
               have H':=Aside0.mk H
               clear H
               have p178:0≤(x26_2:Int):=da_
               have q178:x26_2 < (l1.length:Int):=da_
               obtain ⟨ad178,e178,hx178_0⟩:=Kd.at_int HR1.out x26_2 p178 q178
               cases e178
               replace hx178_0:=(HB.out.cell (World.block_lt_of_cell? w _ hx178_0)).trans hx178_0
               replace p178:=eq_true p178
               replace q178:=eq_true q178
               obtain ⟨Ao18,co18,eo18⟩:=Kd.R_slice HO_5.out
               subst eo18
               have p179:0≤((ji14):Int):=da_
               have q179:(ji14) < (x5_2.length:Int):=da_
               obtain ⟨ad179,e179,hx179_0⟩:=Kd.at_int (Kd.R_reads' HO_5.out).2.2 (ji14) p179 q179
               cases e179
               replace p179:=eq_true p179
               replace q179:=eq_true q179
               have p17:0≤((ji14):Int):=da_
               have q17:((ji14):Int) < ((x5_2.length:Int):Int):=da_
               obtain ⟨go17,co17,eo17,gb17,gl17,cl17,HG17⟩:=Kd.R_form HO_5.out (by omega)
               (first|cases eo17|(injection eo17 with ea_ en_ ec_;(first|subst ea_|(injection ea_ with ea_;subst ea_));subst ec_;clear en_))
               have GB17:=Aside0.mk gb17
               have GG17:=Aside0.mk HG17
               clear gb17 gl17 HG17
               (first|simp only [add_plain] at hx179_0|skip)
               obtain ⟨hx17_0,hf17_0⟩:=Kd.R_celln 0 HO_5.out ((ji14):Int) p17 q17
               replace p17:=eq_true p17
               replace q17:=eq_true q17
               have HP19:=Kd.R_putg HO_5.out ((ji14):Int) ((Int.tmod (IntKind.u64.wrap (x8_2 + (IntKind.u64.wrap ((IntKind.u64.wrap ((IntKind.u64.wrap ((rd l0 x19_1))) * (IntKind.u64.wrap (rd l1 x26_2)))) + (IntKind.u64.wrap (rd x5_2 (ji14))))))) 1000000000) % 4294967296)
               go_wp2_with (first|((with_reducible refine gate_store (t:=95) (p:=53) rfl ?_);refine store_event (t:=95) (p:=53) (v:=?vo_w20) (w1:=(wr.setCell ⟨go17,((ji14):Int).toNat,none⟩ (.int .u32 ((Int.tmod (IntKind.u64.wrap (x8_2 + (IntKind.u64.wrap ((IntKind.u64.wrap ((IntKind.u64.wrap ((rd l0 x19_1))) * (IntKind.u64.wrap (rd l1 x26_2)))) + (IntKind.u64.wrap (rd x5_2 (ji14))))))) 1000000000) % 4294967296)))) ?hg ?ho ?hn ?hr ?_;(case ho=>rfl);(case hg=>rfl);(case hn=>rfl);(case hr=>first|(go_simp;done)|(go_simp;rfl));intro w20 hw;have hg:wr.grownBy w20 (some go17):=(by rw [hw];exact HP19.2);have hp_:Kd.R (Kd.int .u32) 95 w20 w.heap.size (fun k_=>(w.heap.size≤k_)) (.slice (some ⟨go17,0,none⟩) x5_2.length co18) y180:=(by rw [hw,Ny180.out];exact HP19.1);clear HP19;replace HO_5:=Aside0.mk hp_;replace HB:=Aside0.mk ((by rw [hw];exact below_set (HB.out) GB17.out:Below w.heap.size w w20));clear hg hw hp_))
               go_roundg k2
               case measure=>have:=HK1.out;have:=HK2.out;omega
               case rel=>exact ⟨(y180),(IntKind.u64.wrap (Int.tdiv (IntKind.u64.wrap (x8_2 + (IntKind.u64.wrap ((IntKind.u64.wrap ((IntKind.u64.wrap ((rd l0 x19_1))) * (IntKind.u64.wrap (rd l1 x26_2)))) + (IntKind.u64.wrap (rd x5_2 (ji14))))))) 1000000000)),(wrap64 (x26_2 + 1)),(by first|rfl|(simp;done)|(simp only [← hji14]<;>(first|rfl|simp))|(simp [*];done)),(by first|rfl|(simp;done)|(simp [*];done)),H',⟨by have:=HK1.out;have:=HK2.out;omega⟩,⟨by (with_reducible repeat (first|apply Kd.R_alloc|apply Kd.R_drewN|apply Kd.R_drew));first|exact HO_5.out|(rw [Ny180.out];exact (Kd.R_putg (by first|exact Kd.R_drewN HO_5.out _|(apply Kd.R_drewN;exact HO_5.out)) ((ji14):Int) ((Int.tmod (IntKind.u64.wrap (x8_2 + (IntKind.u64.wrap ((IntKind.u64.wrap ((IntKind.u64.wrap ((rd l0 x19_1))) * (IntKind.u64.wrap (rd l1 x26_2)))) + (IntKind.u64.wrap (rd x5_2 (ji14))))))) 1000000000) % 4294967296)).1)|(rw [Ny180.out];exact (Kd.R_putg HO_5.out ((ji14):Int) ((Int.tmod (IntKind.u64.wrap (x8_2 + (IntKind.u64.wrap ((IntKind.u64.wrap ((IntKind.u64.wrap ((rd l0 x19_1))) * (IntKind.u64.wrap (rd l1 x26_2)))) + (IntKind.u64.wrap (rd x5_2 (ji14))))))) 1000000000) % 4294967296)).1)⟩,⟨by first|(exact below_set bx_ GB17.out)|(repeat (first|(with_reducible first|exact HB.out|apply below_alloc|apply pw_below_drewN|apply below_drew1)|exact HB.out))⟩⟩
              ·rw [if_neg c16] at H
               exact absurd H sm_
             ·rw [if_neg c15] at H
              exact absurd H sm_
            ·rw [if_neg c13] at H
             exact absurd H sm_
           ·rw [if_neg c12] at H
            exact absurd H sm_
          ·rw [if_neg c11] at H
           have c11b0:decide (x26_2 < (l1.length:Int)) = false:=decide_eq_false c11
           clear c11
           obtain ⟨ji21,hji21⟩:∃ j_:Int,(wrap64 (x19_1 + (l1.length:Int))) = j_:=⟨_,rfl⟩
           replace H:(if 0≤(ji21) then (if (ji21) < (x5_2.length:Int) then (natural_num_times.l0 k2 l1 (x5_2.set ((ji21):Int).toNat ((x8_2) % 4294967296)) l0 (l0.length:Int) (wrap64 (x19_1 + 1))) else (none)) else (none)) = some r:=by first|(rw [hji21] at H;exact H)|(simp only [hji21] at H ⊢;exact H)
           have hji21w:(IntKind.i64.wrap (x19_1 + (l1.length:Int))) = ji21:=(i64_w _).trans hji21
           by_cases c22:0≤(ji21)
           ·rw [if_pos c22] at H
            have c22b0:decide (0≤(ji21)) = true:=decide_eq_true c22
            clear c22
            by_cases c23:(ji21) < (x5_2.length:Int)
            ·rw [if_pos c23] at H
             have c23b0:decide ((ji21) < (x5_2.length:Int)) = true:=decide_eq_true c23
             clear c23
             obtain ⟨y181,hy181⟩:∃ y_:List Int,y_ = (x5_2.set ((ji21):Int).toNat ((x8_2) % 4294967296)):=⟨_,rfl⟩
             replace H:(natural_num_times.l0 k2 l1 y181 l0 (l0.length:Int) (wrap64 (x19_1 + 1))) = some r:=by first|(rw [hy181];with_reducible exact H)|(have H2_:=(Option.bind_some _ _).symm.trans H;rw [hy181];with_reducible exact H2_)|(have H2_:=(Option.bind_some _ _).symm.trans H;with_reducible exact H2_)|with_reducible exact H|(rw [hy181];exact H)|exact H
             have Ny181:=Aside0.mk hy181
             clear hy181
             have H':=Aside0.mk H
             clear H
             have p24:0≤((ji21):Int):=da_
             have q24:((ji21):Int) < ((x5_2.length:Int):Int):=da_
             obtain ⟨go24,co24,eo24,gb24,gl24,cl24,HG24⟩:=Kd.R_form HO_5.out (by omega)
             (first|cases eo24|(injection eo24 with ea_ en_ ec_;(first|subst ea_|(injection ea_ with ea_;subst ea_));subst ec_;clear en_))
             have GB24:=Aside0.mk gb24
             have GG24:=Aside0.mk HG24
             clear gb24 gl24 HG24
             obtain ⟨hx24_0,hf24_0⟩:=Kd.R_celln 0 HO_5.out ((ji21):Int) p24 q24
             replace p24:=eq_true p24
             replace q24:=eq_true q24
             have HP25:=Kd.R_putg HO_5.out ((ji21):Int) ((x8_2) % 4294967296)
             go_wp2_with (first|((with_reducible refine gate_store (t:=95) (p:=64) rfl ?_);refine store_event (t:=95) (p:=64) (v:=?vo_w26) (w1:=(wr.setCell ⟨go24,((ji21):Int).toNat,none⟩ (.int .u32 ((x8_2) % 4294967296)))) ?hg ?ho ?hn ?hr ?_;(case ho=>rfl);(case hg=>rfl);(case hn=>rfl);(case hr=>first|(go_simp;done)|(go_simp;rfl));intro w26 hw;have hg:wr.grownBy w26 (some go24):=(by rw [hw];exact HP25.2);have hp_:Kd.R (Kd.int .u32) 95 w26 w.heap.size (fun k_=>(w.heap.size≤k_)) (.slice (some ⟨go24,0,none⟩) x5_2.length co24) y181:=(by rw [hw,Ny181.out];exact HP25.1);clear HP25;replace HO_5:=Aside0.mk hp_;replace HB:=Aside0.mk ((by rw [hw];exact below_set (HB.out) GB24.out:Below w.heap.size w w26));clear hg hw hp_))
             go_roundg k2
             case measure=>have:=HK1.out;have:=HK2.out;omega
             case rel=>exact ⟨(y181),(wrap64 (x19_1 + 1)),(by first|rfl|(simp;done)|(simp [*];done)),H',⟨by have:=HK1.out;have:=HK2.out;omega⟩,⟨by (with_reducible repeat (first|apply Kd.R_alloc|apply Kd.R_drewN|apply Kd.R_drew));first|exact HO_5.out|(rw [Ny181.out];exact (Kd.R_putg (by first|exact Kd.R_drewN HO_5.out _|(apply Kd.R_drewN;exact HO_5.out)) ((ji21):Int) ((x8_2) % 4294967296)).1)|(rw [Ny181.out];exact (Kd.R_putg HO_5.out ((ji21):Int) ((x8_2) % 4294967296)).1)⟩,⟨by first|(exact below_set bx_ GB24.out)|(repeat (first|(with_reducible first|exact HB.out|apply below_alloc|apply pw_below_drewN|apply below_drew1)|exact HB.out))⟩⟩
            ·rw [if_neg c23] at H
             exact absurd H sm_
           ·rw [if_neg c22] at H
            exact absurd H sm_
       ·rw [if_neg c10] at H
        exact absurd H sm_
      ·rw [if_neg c9] at H
       exact absurd H sm_
     ·rw [if_neg c8] at H
      have c8b0:decide (x19_1 < (l0.length:Int)) = false:=decide_eq_false c8
      clear c8
      obtain ⟨t174,A27,H⟩:=bn_ H
      obtain rfl:=Option.some.inj H
      obtain ⟨Ao28,co28,eo28⟩:=Kd.R_slice HO_5.out
      subst eo28
      go_wp2_with (first|((with_reducible refine gate_callee (f:=97) rfl ?_);refine gm_ (some 67) Tryz.func97 #[.slice Ao28 x5_1.length co28] ?_;refine (trim_own k1 w.heap.size (fun k_=>(w.heap.size≤k_)) _ _ x5_1 t174 _ ?side1 A27.out).mono ?_;(case side1=>(with_reducible repeat (first|apply Kd.R_alloc|apply Kd.R_drewN|apply Kd.R_drew));exact HO_5.out);rintro e w29 ⟨v175,rfl,ho0,hb⟩;refine ⟨_,rfl,?_⟩;have n1_:=Aside0.mk ho0;have n2_:=Aside0.mk (below_step bx_ hb);clear HO_5;clear HB;have HO176:=n1_;have HB:=n2_;clear n1_ n2_;(try clear hb);(try clear ho0)))
      go_ret
      exact ⟨_,by first|rfl|(simp [errW_none,errW_some]<;>rfl)|(simp only [← hji3];first|rfl|(simp [errW_none,errW_some]<;>rfl))|(simp [*,errW_none,errW_some]<;>rfl),by (with_reducible repeat (first|apply Kd.R_alloc|apply Kd.R_drewN|apply Kd.R_drew));exact HO176.out,bx_⟩
  ·rw [if_neg c5] at H
   exact absurd H sm_
 ·rw [if_neg c4] at H
  exact absurd H sm_
end Go.Proofs.YtaknchlegjcdhaaGreatDoor.Pr
namespace Go.Proofs.YtaknchlegjcdhaaGreatDoor.Pr
set_option linter.unusedVariables false
set_option linter.unusedSimpArgs false
open Go.RowKit Go.Proofs.YtaknchlegjcdhaaGreatDoor.NatTh Go.Proofs.YtaknchlegjcdhaaGreatDoorW.PrintWords Go.Proofs.YtaknchlegjcdhaaGreatDoorW.PrintLast Go.Proofs.YtaknchlegjcdhaaGreatDoorW.PrintMore
theorem ok_len {a:Nat} (h:(numOf a).length≤549755813888):Ok (numOf a):=by
 unfold Ok
 omega
structure BigN (a b:Nat) (l0 l1:List Int) (tp:Int) (n1 f:Nat):Prop where
 n1e:wrap64 ((l1.length:Int) - 1) = (n1:Int)
 n1l:n1 < l1.length
 te:rd l1 (n1:Int) = tp
 wt:IntKind.u64.wrap tp = tp
 wt1:IntKind.u64.wrap (tp + 1) = tp + 1
 tn:tp + 1≠0
 df:Int.tdiv 1000000000 (tp + 1) = (f:Int)
 wf:IntKind.u64.wrap (f:Int) = (f:Int)
 f0:0 < f
 f1:f≤500000000
 k0:∃ k,natural_of.f k (f:Int) = some (numOf f)
 k1:∃ k,natural_num_times.f k l0 (numOf f) = some (numOf (a * f))
 k2:∃ k,natural_num_times.f k l1 (numOf f) = some (numOf (b * f))
 lim:(numOf (a * f)).length < 35184372088832
 ne:(numOf (a * f)).length + 1≠l0.length
 kl:2≤(numOf (b * f)).length
 le:(numOf (b * f)).length≤(numOf (a * f)).length
 bl:(numOf (b * f)).length≤549755813889
 O:OutI ((a * f:Nat):Int) ((numOf (a * f)).length + 1) (numOf (a * f) ++ [0]) (numOf (b * f)) (List.replicate ((numOf (a * f)).length + 1 - (numOf (b * f)).length) 0) ((numOf (a * f)).length + 1 - (numOf (b * f)).length)
theorem len_one {f:Nat} (h0:0 < f) (h1:f < 1000000000):(numOf f).length = 1:=by
 rw [numOf_one h1 h0]
 rfl
theorem bigN {a b:Nat} (hba:b≤a) (h0:(numOf a).length≤549755813888) (h1:2≤(numOf b).length):∃ tp n1 f,BigN a b (numOf a) (numOf b) tp n1 f:=by
 have hl1:=len_mono hba
 have hb:0 < b:=by
  by_cases e:b = 0
  ·rw [e,numOf_zero] at h1
   simp at h1
  ·omega
 have ht:=top_pos b hb
 have hw:=(num_numOf b).1.getD ((numOf b).length - 1)
 rw [BB] at hw
 obtain ⟨t,hte⟩:∃ t:Nat,(numOf b).getD ((numOf b).length - 1) 0 = (t:Int):=⟨((numOf b).getD ((numOf b).length - 1) 0).toNat,by omega⟩
 rw [hte] at ht hw
 have hf0:0 < 1000000000 / (t + 1):=Nat.div_pos (by omega) (by omega)
 have hf1:1000000000 / (t + 1)≤500000000:=by
  have:1000000000 / (t + 1)≤1000000000 / 2:=Nat.div_le_div_left (by omega) (by decide)
  omega
 obtain ⟨f,hf⟩:∃ f,f = 1000000000 / (t + 1):=⟨_,rfl⟩
 rw [← hf] at hf0 hf1
 have hlf:=len_one hf0 (by omega)
 have hm1:=len_mul a f
 have hm2:=len_mul b f
 have hg1:a≤a * f:=Nat.le_mul_of_pos_right a hf0
 have hg2:b≤b * f:=Nat.le_mul_of_pos_right b hf0
 have hg3:b * f≤a * f:=Nat.mul_le_mul_right f hba
 have hh1:=len_mono hg1
 have hh2:=len_mono hg2
 have hh3:=len_mono hg3
 refine ⟨t,(numOf b).length - 1,f,?_⟩
 have htd:Int.tdiv 1000000000 ((t:Int) + 1) = (f:Int):=by
  rw [Int.tdiv_eq_ediv_of_nonneg (by decide),hf,Int.natCast_ediv]
  rfl
 refine ⟨w64n (by omega) (by omega),by omega,by rw [rd_eq];exact hte,u64w (by omega) (by omega),u64w (by omega) (by omega),by omega,htd,u64w (by omega) (by omega),hf0,hf1,(of_ev f (by omega)).rounds,(times_ev a f (ok_len h0) (ok_len (by omega))).1.rounds,(times_ev b f (ok_len (by omega)) (ok_len (by omega))).1.rounds,by omega,by omega,by omega,hh3,by omega,?_⟩
 have hz:(0:Int)≤0∧(0:Int) < B:=⟨by decide,B_pos⟩
 refine ⟨(num_numOf _).1.append (Wd.cons hz Wd.nil),(num_numOf _).1,Wd.zeros _,by omega,top_pos _ (by omega),by simp,by rw [List.length_replicate];omega,by rw [List.length_replicate];exact Nat.le_refl _,by omega,?_,?_⟩
 ·rw [val_snoc,val_numOf,List.drop_replicate,Nat.sub_self,List.replicate_zero]
  simp [val]
 ·rw [val_snoc,val_numOf]
  have e1:=lt_len (a * f)
  have e2:B ^ ((numOf (b * f)).length - 1)≤val (numOf (b * f)):=(num_numOf (b * f)).ge (by rw [ne_eq,numOf_nil];omega)
  have e3:=Int.mul_le_mul_of_nonneg_right e2 (Int.le_of_lt (Bpow_pos ((numOf (a * f)).length + 1 - (numOf (b * f)).length)))
  rw [← Bpow_add,show (numOf (b * f)).length - 1 + ((numOf (a * f)).length + 1 - (numOf (b * f)).length) = (numOf (a * f)).length by omega] at e3
  rw [Int.mul_zero,Int.add_zero]
  omega
structure EndN (a b f:Nat) (u v q:List Int):Prop where
 k1:∃ k,natural_num_trim.f k (u.take v.length) = some (numOf (a % b * f))
 k2:∃ k,natural_num_by.f k (numOf (a % b * f)) (f:Int) = some (numOf (a % b),[])
 k3:∃ k,natural_num_trim.f k q = some (numOf (a / b))
 k4:natural_num_small.f (numOf f) = some ((f:Int),true)
 le:v.length≤u.length
theorem endN {a b f lu:Nat} {u q:List Int} (hb:0 < b) (hf0:0 < f) (hf1:f≤500000000) (h0:(numOf a).length≤549755813888) (h1:(numOf b).length≤549755813888) (h:OutI ((a * f:Nat):Int) lu u (numOf (b * f)) q 0):EndN a b f u (numOf (b * f)) q:=by
 have hsm:=h.small
 have hlu:=h.llu
 have hlq:=h.lq
 have heq:=h.eq
 have hlow:=h.low
 rw [List.drop_zero,Int.pow_zero,Int.mul_one,val_numOf] at heq
 rw [Int.pow_zero,Int.mul_one,val_numOf] at hlow
 have hu0:=val_nonneg h.wu
 have hq0:=val_nonneg h.wq
 obtain ⟨x,hx⟩:∃ x:Nat,val u = (x:Int):=⟨(val u).toNat,by omega⟩
 obtain ⟨y,hy⟩:∃ y:Nat,val q = (y:Int):=⟨(val q).toNat,by omega⟩
 rw [hx,hy] at heq
 rw [hx] at hlow
 have heq':a * f = x + b * f * y:=by exact_mod_cast heq
 have hlow':x < b * f:=by exact_mod_cast hlow
 have hbf:0 < b * f:=Nat.mul_pos hb hf0
 have hxe:x = a % b * f:=by
  have:a * f % (b * f) = x:=by rw [heq',Nat.add_mul_mod_self_left,Nat.mod_eq_of_lt hlow']
  rw [Nat.mul_mod_mul_right] at this
  exact this.symm
 have hye:y = a / b:=by
  have:a * f / (b * f) = y:=by rw [heq',Nat.add_mul_div_left _ _ hbf,Nat.div_eq_of_lt hlow',Nat.zero_add]
  rw [Nat.mul_div_mul_right _ _ hf0] at this
  exact this.symm
 have hlf:=len_one hf0 (by omega)
 have hlt:val u < B ^ (numOf (b * f)).length:=by
  have:=lt_len (b * f)
  rw [hx]
  omega
 have htk:=(val_high h.wu (numOf (b * f)).length (by omega) hlt).2
 have ht1:trimL (u.take (numOf (b * f)).length) = numOf (a % b * f):=trim_numOf (h.wu.take _) (by rw [← htk,hx,hxe])
 have ht2:trimL q = numOf (a / b):=trim_numOf h.wq (by rw [hy,hye])
 have hm:a % b * f≤b * f:=Nat.mul_le_mul_right f (Nat.le_of_lt (Nat.mod_lt _ hb))
 have hl2:=len_mono hm
 have hl3:=len_mul b f
 refine ⟨?_,?_,?_,?_,by omega⟩
 ·have:=(trim_ev (l:=u.take (numOf (b * f)).length) (by rw [List.length_take];omega)).rounds
  rw [ht1] at this
  exact this
 ·have:=(by_ev (a % b * f) f hf0 (by omega) (show Ok (numOf (a % b * f)) by unfold Ok;omega)).1.rounds
  rw [Nat.mul_div_cancel _ hf0,Nat.mul_mod_left,numOf_zero] at this
  exact this
 ·have:=(trim_ev (l:=q) (by omega)).rounds
  rw [ht2] at this
  exact this
 ·rw [small_eq,if_pos (by omega)]
end Go.Proofs.YtaknchlegjcdhaaGreatDoor.Pr
namespace Go.Proofs.YtaknchlegjcdhaaGreatDoor.Pr
set_option linter.unusedVariables false
set_option linter.unusedSimpArgs false
open Go.RowKit Go.Proofs.YtaknchlegjcdhaaGreatDoor.NatTh Go.Proofs.YtaknchlegjcdhaaGreatDoorW.PrintWords Go.Proofs.YtaknchlegjcdhaaGreatDoorW.PrintLast Go.Proofs.YtaknchlegjcdhaaGreatDoorW.PrintMore
set_option maxHeartbeats 8000000 in
set_option maxRecDepth 100000 in
theorem divide_less (P0_:Nat→Prop) (A0:Option Addr) (c0:Nat) (l0:List Int) (A1:Option Addr) (c1:Nat) (l1:List Int) (a b:Nat) (w:World) (hs0:Kd.V (Kd.int .u32) 95 w w.heap.size (fun k_=>P0_ k_) (.slice A0 l0.length c0) l0) (hr1:Kd.C (Kd.int .u32) w A1 l1.length l1) (hc1:l1.length≤c1) (h0:l0.length≤549755813888) (h1:l1.length≤549755813888) (e0:l0 = numOf a) (e1:l1 = numOf b) (hb0:0 < b) (hlt:a < b) :
  Calls Tryz.prog 69 #[.slice A0 l0.length c0,.slice A1 l1.length c1] w fun e w'=>∃ v0_ v1_:Value,e = .returned (.tuple #[v0_,v1_])∧Kd.R (Kd.int .u32) 95 w' w.heap.size (fun _=>True) v0_ (numOf (a / b))∧Kd.V (Kd.int .u32) 95 w' w.heap.size (fun k_=>(P0_ k_ ∨ w.heap.size≤k_)∧some k_≠(v0_:Value).ownBlock) v1_ (numOf (a % b))∧Below w.heap.size w w':=by
 have hr0:=(Kd.V_reads' hs0).2.2
 have hc0:=(Kd.V_reads' hs0).2.1
 have HS0:=Aside0.mk hs0
 have HR0:=Aside0.mk hr0
 have HC0:=Aside0.mk hc0
 have HR1:=Aside0.mk hr1
 have HC1:=Aside0.mk hc1
 have HB:=Aside0.mk (Below.refl w.heap.size w)
 obtain ⟨kc,A3⟩:∃ k,natural_num_compare.f k l0 l1 = some (ord a b):=by rw [e0,e1];exact (compare_ev a b (ok_len (by rw [← e0];exact h0)) (ok_len (by rw [← e1];exact h1))).1.rounds
 have E0:=Aside0.mk e0
 have E1:=Aside0.mk e1
 clear hs0 hr0 hc0 hr1 hc1 e0 e1
 obtain ⟨t137,ht⟩:∃ t,ord a b = t:=⟨_,rfl⟩
 rw [ht] at A3
 have c4b0:decide (t137 < 0) = true:=by rw [← ht];unfold ord;rw [if_pos hlt];rfl
 have ed:numOf (a / b) = []:=by rw [Nat.div_eq_of_lt hlt,numOf_zero]
 have em:numOf (a % b) = l0:=by rw [Nat.mod_eq_of_lt hlt];exact E0.out.symm
 rw [ed,em]
 replace A3:=Aside0.mk A3
 clear ht ed em
 go_enter Tryz.func69,Tryz.ntmps69
 go_wp2_with (first|((with_reducible refine gate_callee (f:=66) rfl ?_);refine goesL_ (some 33) rfl rfl Tryz.func66 (by kernel_rfl) rfl #[.slice A0 l0.length c0,.slice A1 l1.length c1] rfl (by (try simp only [List.map_toArray,List.map_cons,List.map_nil]);first|done|rfl|(simp only [List.length_drop,List.length_take];rfl)|(simp [*];done)) ?_;(with_reducible refine (natural_num_compare.calls kc _ _ l0 _ _ l1 t137 _ ?side1 ?side2 ?side3 ?side4 A3.out).mono ?_);(case side1=>repeat (first|exact HR0.out|(with_reducible refine Kd.C_alloc ?_ _)|(with_reducible refine Kd.C_drewN ?_ _)|(with_reducible refine Kd.C_drew ?_)));(case side2=>exact HC0.out);(case side3=>repeat (first|exact HR1.out|(with_reducible refine Kd.C_alloc ?_ _)|(with_reducible refine Kd.C_drewN ?_ _)|(with_reducible refine Kd.C_drew ?_)));(case side4=>exact HC1.out);rintro e w' ⟨rfl,⟨nd,rfl⟩⟩;refine ⟨_,rfl,?_⟩))
 go_ret2
 refine ⟨_,_,rfl,Kd.R_nil _ _ _ _ _,Kd.V_mono (by (with_reducible repeat (first|apply Kd.V_alloc|apply Kd.V_drewN|apply Kd.V_drew));exact HS0.out) (fun k hk=>⟨.inl hk,by simp [Value.ownBlock]⟩),(by repeat (first|(with_reducible first|exact HB.out|apply below_alloc|apply pw_below_drewN|apply below_drew1)|exact HB.out))⟩
end Go.Proofs.YtaknchlegjcdhaaGreatDoor.Pr
namespace Go.Proofs.YtaknchlegjcdhaaGreatDoor.Pr
set_option linter.unusedVariables false
set_option linter.unusedSimpArgs false
open Go.RowKit Go.Proofs.YtaknchlegjcdhaaGreatDoor.NatTh Go.Proofs.YtaknchlegjcdhaaGreatDoorW.PrintWords Go.Proofs.YtaknchlegjcdhaaGreatDoorW.PrintLast Go.Proofs.YtaknchlegjcdhaaGreatDoorW.PrintMore
theorem one_word {l1:List Int} {b:Nat} (e:l1 = numOf b) (hb:0 < b) (h:l1.length = 1):b < 1000000000∧rd l1 0 = (b:Int)∧IntKind.u64.wrap (b:Int) = (b:Int):=by
 have h1:=lt_len b
 rw [← e,h,Int.pow_succ,Int.pow_zero,Int.one_mul,BB] at h1
 have h2:b < 1000000000:=by omega
 refine ⟨h2,?_,u64w (by omega) (by omega)⟩
 rw [e,numOf_one h2 hb]
 rfl
set_option maxHeartbeats 8000000 in
set_option maxRecDepth 100000 in
theorem divide_one (P0_:Nat→Prop) (A0:Option Addr) (c0:Nat) (l0:List Int) (A1:Option Addr) (c1:Nat) (l1:List Int) (a b:Nat) (w:World) (hs0:Kd.V (Kd.int .u32) 95 w w.heap.size (fun k_=>P0_ k_) (.slice A0 l0.length c0) l0) (hr1:Kd.C (Kd.int .u32) w A1 l1.length l1) (hc1:l1.length≤c1) (h0:l0.length≤549755813888) (h1:l1.length≤549755813888) (e0:l0 = numOf a) (e1:l1 = numOf b) (hb0:0 < b) (hlt:¬ a < b) (hx0:¬ l0.length≤2) (hx1:l1.length = 1) :
  Calls Tryz.prog 69 #[.slice A0 l0.length c0,.slice A1 l1.length c1] w fun e w'=>∃ v0_ v1_:Value,e = .returned (.tuple #[v0_,v1_])∧Kd.R (Kd.int .u32) 95 w' w.heap.size (fun _=>True) v0_ (numOf (a / b))∧Kd.V (Kd.int .u32) 95 w' w.heap.size (fun k_=>(P0_ k_ ∨ w.heap.size≤k_)∧some k_≠(v0_:Value).ownBlock) v1_ (numOf (a % b))∧Below w.heap.size w w':=by
 have hr0:=(Kd.V_reads' hs0).2.2
 have hc0:=(Kd.V_reads' hs0).2.1
 have HS0:=Aside0.mk hs0
 have HR0:=Aside0.mk hr0
 have HC0:=Aside0.mk hc0
 have HR1:=Aside0.mk hr1
 have HC1:=Aside0.mk hc1
 have HB:=Aside0.mk (Below.refl w.heap.size w)
 obtain ⟨kc,A3⟩:∃ k,natural_num_compare.f k l0 l1 = some (ord a b):=by rw [e0,e1];exact (compare_ev a b (ok_len (by rw [← e0];exact h0)) (ok_len (by rw [← e1];exact h1))).1.rounds
 have E0:=Aside0.mk e0
 have E1:=Aside0.mk e1
 clear hs0 hr0 hc0 hr1 hc1 e0 e1
 obtain ⟨t137,ht⟩:∃ t,ord a b = t:=⟨_,rfl⟩
 rw [ht] at A3
 have c4b0:decide (t137 < 0) = false:=decide_eq_false (by rw [← ht];unfold ord;rw [if_neg hlt];split<;>decide)
 replace A3:=Aside0.mk A3
 clear ht
 obtain ⟨t138,t139,A5,rfl⟩:∃ t s,natural_num_small.f l0 = some (t,s)∧s = false:=⟨0,false,by rw [E0.out,small_eq,if_neg (by rw [← E0.out];exact hx0)],rfl⟩
 obtain ⟨t140,t141,A6⟩:∃ t s,natural_num_small.f l1 = some (t,s):=⟨_,_,by rw [E1.out,small_eq,if_pos (by rw [← E1.out,hx1];decide)]⟩
 have hw:=one_word E1.out hb0 hx1
 obtain ⟨kb,AB⟩:∃ k,natural_num_by.f k l0 (b:Int) = some (numOf (a / b),numOf (a % b)):=by rw [E0.out];exact (by_ev a b hb0 (by have:=hw.1;omega) (ok_len (by rw [← E0.out];exact h0))).1.rounds
 replace A5:=Aside0.mk A5
 replace A6:=Aside0.mk A6
 replace AB:=Aside0.mk AB
 obtain ⟨ad,ead,hcell⟩:=Kd.at_int HR1.out 0 (by decide) (by rw [hx1];decide)
 subst ead
 rw [show ((0:Int)).toNat = 0 from rfl,Addr.add_zero'] at hcell
 rw [hw.2.1] at hcell
 have c16:((l1.length:Int) == 1) = true:=by rw [hx1];rfl
 have q148:(0 < (l1.length:Int)) = True:=eq_true (by rw [hx1];decide)
 have qi148:(0 < l1.length) = True:=eq_true (by rw [hx1];decide)
 have wb:IntKind.u64.wrap (b:Int) = (b:Int):=hw.2.2
 clear hx1 hw
 go_enter Tryz.func69,Tryz.ntmps69
 go_wp2_with (first|((with_reducible refine gate_callee (f:=66) rfl ?_);refine goesL_ (some 33) rfl rfl Tryz.func66 (by kernel_rfl) rfl #[.slice A0 l0.length c0,.slice (some ad) l1.length c1] rfl (by (try simp only [List.map_toArray,List.map_cons,List.map_nil]);first|done|rfl|(simp only [List.length_drop,List.length_take];rfl)|(simp [*];done)) ?_;(with_reducible refine (natural_num_compare.calls kc _ _ l0 _ _ l1 t137 _ ?side1 ?side2 ?side3 ?side4 A3.out).mono ?_);(case side1=>repeat (first|exact HR0.out|(with_reducible refine Kd.C_alloc ?_ _)|(with_reducible refine Kd.C_drewN ?_ _)|(with_reducible refine Kd.C_drew ?_)));(case side2=>exact HC0.out);(case side3=>repeat (first|exact HR1.out|(with_reducible refine Kd.C_alloc ?_ _)|(with_reducible refine Kd.C_drewN ?_ _)|(with_reducible refine Kd.C_drew ?_)));(case side4=>exact HC1.out);rintro e w' ⟨rfl,⟨nd,rfl⟩⟩;refine ⟨_,rfl,?_⟩)|((with_reducible refine gate_callee (f:=93) rfl ?_);refine goesL_ (some 38) rfl rfl Tryz.func93 (by kernel_rfl) rfl #[.slice A0 l0.length c0] rfl (by (try simp only [List.map_toArray,List.map_cons,List.map_nil]);first|done|rfl|(simp only [List.length_drop,List.length_take];rfl)|(simp [*];done)) ?_;(with_reducible refine (natural_num_small.calls _ _ l0 t138 false _ ?side1 ?side2 A5.out).mono ?_);(case side1=>repeat (first|exact HR0.out|(with_reducible refine Kd.C_alloc ?_ _)|(with_reducible refine Kd.C_drewN ?_ _)|(with_reducible refine Kd.C_drew ?_)));(case side2=>exact HC0.out);rintro e w' ⟨rfl,⟨nd,rfl⟩⟩;refine ⟨_,rfl,?_⟩)|((with_reducible refine gate_callee (f:=93) rfl ?_);refine goesL_ (some 43) rfl rfl Tryz.func93 (by kernel_rfl) rfl #[.slice (some ad) l1.length c1] rfl (by (try simp only [List.map_toArray,List.map_cons,List.map_nil]);first|done|rfl|(simp only [List.length_drop,List.length_take];rfl)|(simp [*];done)) ?_;(with_reducible refine (natural_num_small.calls _ _ l1 t140 t141 _ ?side1 ?side2 A6.out).mono ?_);(case side1=>repeat (first|exact HR1.out|(with_reducible refine Kd.C_alloc ?_ _)|(with_reducible refine Kd.C_drewN ?_ _)|(with_reducible refine Kd.C_drew ?_)));(case side2=>exact HC1.out);rintro e w' ⟨rfl,⟨nd,rfl⟩⟩;refine ⟨_,rfl,?_⟩)|((with_reducible refine gate_callee (f:=95) rfl ?_);refine goesL_ (some 68) rfl rfl Tryz.func95 (by kernel_rfl) rfl #[.slice A0 l0.length c0,.int .u64 (b:Int)] rfl (by (try simp only [List.map_toArray,List.map_cons,List.map_nil]);first|done|rfl|(simp only [List.length_drop,List.length_take];rfl)|(simp [*];done)) ?_;(with_reducible refine (by_own kb _ _ l0 (b:Int) _ _ _ ?side1 ?side2 AB.out).mono ?_);(case side1=>repeat (first|exact HR0.out|(with_reducible refine Kd.C_alloc ?_ _)|(with_reducible refine Kd.C_drewN ?_ _)|(with_reducible refine Kd.C_drew ?_)));(case side2=>exact HC0.out);rintro e w19 ⟨v150,v153,rfl,ho0,ho1,hb⟩;refine ⟨_,rfl,?_⟩;have HO151:=Aside0.mk (Kd.R_lower ho0 (below_size (by repeat (first|(with_reducible first|exact HB.out|apply below_alloc|apply pw_below_drewN|apply below_drew1)|exact HB.out))));have HO154:=Aside0.mk (Kd.V_lower (Kd.V_mono (ok':=fun k_=>(w.heap.size≤k_)∧some k_≠(v150:Value).ownBlock) ho1 (fun k_ hk_=>⟨Nat.le_trans (below_size (by repeat (first|(with_reducible first|exact HB.out|apply below_alloc|apply pw_below_drewN|apply below_drew1)|exact HB.out))) hk_.1,hk_.2⟩)) (below_size (by repeat (first|(with_reducible first|exact HB.out|apply below_alloc|apply pw_below_drewN|apply below_drew1)|exact HB.out))));have n2_:=Aside0.mk (below_step (by repeat (first|(with_reducible first|exact HB.out|apply below_alloc|apply pw_below_drewN|apply below_drew1)|exact HB.out)) hb);clear HB;have HB:=n2_;clear n2_;clear ho0 ho1 hb))
 go_ret2
 refine ⟨_,_,rfl,Kd.R_mono (by (with_reducible repeat (first|apply Kd.R_alloc|apply Kd.R_drewN|apply Kd.R_drew));exact HO151.out) (fun _ _=>trivial),Kd.V_mono HO154.out (fun k hk=>⟨.inr hk.1,hk.2⟩),(by repeat (first|(with_reducible first|exact HB.out|apply below_alloc|apply pw_below_drewN|apply below_drew1)|exact HB.out))⟩
end Go.Proofs.YtaknchlegjcdhaaGreatDoor.Pr
namespace Go.Proofs.YtaknchlegjcdhaaGreatDoor.Pr
set_option linter.unusedVariables false
set_option linter.unusedSimpArgs false
open Go.RowKit Go.Proofs.YtaknchlegjcdhaaGreatDoor.NatTh Go.Proofs.YtaknchlegjcdhaaGreatDoorW.PrintWords Go.Proofs.YtaknchlegjcdhaaGreatDoorW.PrintLast Go.Proofs.YtaknchlegjcdhaaGreatDoorW.PrintMore
def divide_T6:Bool × List (List Nat × List Nat):=(true,[([],[]),([],[]),([0,1],[0,1]),([2],[2]),([],[]),([],[]),([4,5],[4,5]),([6,3],[6]),([3,7,0,1,2,3],[3]),([7,8,0,1,2,3,4,5,6,7,8],[7])])
def divide_B6:List Nat:=[0,0,3,7,0,0,48,127,255,511]
theorem divide_tab6:rtab .any (opsOf Tryz.f69 6) = divide_T6:=by kernel_rfl
theorem divide_bits6:waitsOk divide_T6.2 divide_B6 = true:=by kernel_rfl
theorem small_words {l:List Int} {a:Nat} (e:l = numOf a) (h:l.length≤2):a < 1000000000000000000:=by
 have h1:=lt_len a
 have h2:=Bpow_le (show (numOf a).length≤2 by rw [← e];exact h)
 rw [show B ^ 2 = 1000000000000000000 by decide] at h2
 omega
set_option maxHeartbeats 8000000 in
set_option maxRecDepth 100000 in
theorem divide_small (P0_:Nat→Prop) (A0:Option Addr) (c0:Nat) (l0:List Int) (A1:Option Addr) (c1:Nat) (l1:List Int) (a b:Nat) (w:World) (hs0:Kd.V (Kd.int .u32) 95 w w.heap.size (fun k_=>P0_ k_) (.slice A0 l0.length c0) l0) (hr1:Kd.C (Kd.int .u32) w A1 l1.length l1) (hc1:l1.length≤c1) (h0:l0.length≤549755813888) (h1:l1.length≤549755813888) (e0:l0 = numOf a) (e1:l1 = numOf b) (hb0:0 < b) (hlt:¬ a < b) (hx0:l0.length≤2) (hx1:l1.length≤2) :
  Calls Tryz.prog 69 #[.slice A0 l0.length c0,.slice A1 l1.length c1] w fun e w'=>∃ v0_ v1_:Value,e = .returned (.tuple #[v0_,v1_])∧Kd.R (Kd.int .u32) 95 w' w.heap.size (fun _=>True) v0_ (numOf (a / b))∧Kd.V (Kd.int .u32) 95 w' w.heap.size (fun k_=>(P0_ k_ ∨ w.heap.size≤k_)∧some k_≠(v0_:Value).ownBlock) v1_ (numOf (a % b))∧Below w.heap.size w w':=by
 have hr0:=(Kd.V_reads' hs0).2.2
 have hc0:=(Kd.V_reads' hs0).2.1
 have HS0:=Aside0.mk hs0
 have HR0:=Aside0.mk hr0
 have HC0:=Aside0.mk hc0
 have HR1:=Aside0.mk hr1
 have HC1:=Aside0.mk hc1
 have HB:=Aside0.mk (Below.refl w.heap.size w)
 obtain ⟨kc,A3⟩:∃ k,natural_num_compare.f k l0 l1 = some (ord a b):=by rw [e0,e1];exact (compare_ev a b (ok_len (by rw [← e0];exact h0)) (ok_len (by rw [← e1];exact h1))).1.rounds
 have E0:=Aside0.mk e0
 have E1:=Aside0.mk e1
 clear hs0 hr0 hc0 hr1 hc1 e0 e1
 obtain ⟨t137,ht⟩:∃ t,ord a b = t:=⟨_,rfl⟩
 rw [ht] at A3
 have c4b0:decide (t137 < 0) = false:=decide_eq_false (by rw [← ht];unfold ord;rw [if_neg hlt];split<;>decide)
 replace A3:=Aside0.mk A3
 clear ht
 have ha2:=small_words E0.out hx0
 have hb2:=small_words E1.out hx1
 obtain ⟨t138,h138⟩:∃ t:Int,t = (a:Int):=⟨_,rfl⟩
 obtain ⟨t140,h140⟩:∃ t:Int,t = (b:Int):=⟨_,rfl⟩
 have A5:natural_num_small.f l0 = some (t138,true):=by rw [E0.out,small_eq,if_pos (by rw [← E0.out];exact hx0),h138]
 have A6:natural_num_small.f l1 = some (t140,true):=by rw [E1.out,small_eq,if_pos (by rw [← E1.out];exact hx1),h140]
 have hd:IntKind.u64.wrap (Int.tdiv t138 t140) = ((a / b:Nat):Int):=by
  rw [h138,h140,Int.tdiv_eq_ediv_of_nonneg (Int.natCast_nonneg a),← Int.natCast_ediv]
  have:=Nat.div_le_self a b
  generalize a / b = x at *
  exact u64w (Int.natCast_nonneg _) (by omega)
 have hm:Int.tmod t138 t140 = ((a % b:Nat):Int):=by
  rw [h138,h140,Int.tmod_eq_emod_of_nonneg (Int.natCast_nonneg a),← Int.natCast_emod]
 obtain ⟨k11,A11⟩:∃ k,natural_of.f k (IntKind.u64.wrap (Int.tdiv t138 t140)) = some (numOf (a / b)):=by
  rw [hd]
  exact (of_ev (a / b) (by have:=Nat.div_le_self a b;omega)).rounds
 obtain ⟨k12,A12⟩:∃ k,natural_of.f k (Int.tmod t138 t140) = some (numOf (a % b)):=by
  rw [hm]
  exact (of_ev (a % b) (by have:=Nat.mod_le a b;omega)).rounds
 replace A5:=Aside0.mk A5
 replace A6:=Aside0.mk A6
 replace A11:=Aside0.mk A11
 replace A12:=Aside0.mk A12
 have c10:¬ t140 = 0:=by rw [h140];omega
 have c10b0:(t140 == 0) = false:=beq_eq_false_iff_ne.mpr c10
 have c10b1:(t140 != 0) = true:=bne_iff_ne.mpr c10
 clear hd hm h138 h140 ha2 hb2 hx0 hx1
 go_enter Tryz.func69,Tryz.ntmps69
 go_wp2_with (first|((with_reducible refine gate_callee (f:=66) rfl ?_);refine goesL_ (some 33) rfl rfl Tryz.func66 (by kernel_rfl) rfl #[.slice A0 l0.length c0,.slice A1 l1.length c1] rfl (by (try simp only [List.map_toArray,List.map_cons,List.map_nil]);first|done|rfl|(simp only [List.length_drop,List.length_take];rfl)|(simp [*];done)) ?_;(with_reducible refine (natural_num_compare.calls kc _ _ l0 _ _ l1 t137 _ ?side1 ?side2 ?side3 ?side4 A3.out).mono ?_);(case side1=>repeat (first|exact HR0.out|(with_reducible refine Kd.C_alloc ?_ _)|(with_reducible refine Kd.C_drewN ?_ _)|(with_reducible refine Kd.C_drew ?_)));(case side2=>exact HC0.out);(case side3=>repeat (first|exact HR1.out|(with_reducible refine Kd.C_alloc ?_ _)|(with_reducible refine Kd.C_drewN ?_ _)|(with_reducible refine Kd.C_drew ?_)));(case side4=>exact HC1.out);rintro e w' ⟨rfl,⟨nd,rfl⟩⟩;refine ⟨_,rfl,?_⟩)|((with_reducible refine gate_callee (f:=93) rfl ?_);refine goesL_ (some 38) rfl rfl Tryz.func93 (by kernel_rfl) rfl #[.slice A0 l0.length c0] rfl (by (try simp only [List.map_toArray,List.map_cons,List.map_nil]);first|done|rfl|(simp only [List.length_drop,List.length_take];rfl)|(simp [*];done)) ?_;(with_reducible refine (natural_num_small.calls _ _ l0 t138 true _ ?side1 ?side2 A5.out).mono ?_);(case side1=>repeat (first|exact HR0.out|(with_reducible refine Kd.C_alloc ?_ _)|(with_reducible refine Kd.C_drewN ?_ _)|(with_reducible refine Kd.C_drew ?_)));(case side2=>exact HC0.out);rintro e w' ⟨rfl,⟨nd,rfl⟩⟩;refine ⟨_,rfl,?_⟩)|((with_reducible refine gate_callee (f:=93) rfl ?_);refine goesL_ (some 43) rfl rfl Tryz.func93 (by kernel_rfl) rfl #[.slice A1 l1.length c1] rfl (by (try simp only [List.map_toArray,List.map_cons,List.map_nil]);first|done|rfl|(simp only [List.length_drop,List.length_take];rfl)|(simp [*];done)) ?_;(with_reducible refine (natural_num_small.calls _ _ l1 t140 true _ ?side1 ?side2 A6.out).mono ?_);(case side1=>repeat (first|exact HR1.out|(with_reducible refine Kd.C_alloc ?_ _)|(with_reducible refine Kd.C_drewN ?_ _)|(with_reducible refine Kd.C_drew ?_)));(case side2=>exact HC1.out);rintro e w' ⟨rfl,⟨nd,rfl⟩⟩;refine ⟨_,rfl,?_⟩))
 refine start_ (n:=10) (S:=fun w'=>True) (ds:=[]) #[false,false,false,false,false,false,false,false,false,false] (by kernel_rfl) rfl rfl trivial (fun hHeld=>?_);refine with_tabW divide_tab6 divide_bits6 (fun HT_ HW_=>?_)
 generalize hW13:(World.drewN _ _).drew = w13
 clear HB
 have HB:Aside0 (Below w.heap.size w w13):=⟨by rw [← hW13];exact below_drew1 (pw_below_drewN (Below.refl _ _) _)⟩
 clear hW13
 refine pure_ (i:=0) (N:=some 51) (v:=?_) (a':=?_) #[true,false,false,false,false,false,false,false,false,false] rfl rfl (any_of HT_.out (by kernel_rfl)) (fun _ _ _ h=>h) (Or.inl ⟨by rfl,?_⟩) ?_ ?_
 rotate_left
 ·intro w'
  go_simp
  with_reducible rfl
 rotate_left
 ·simp only [Act.put,List.setIfInBounds_toArray,List.set_cons_zero,List.set_cons_succ,i64_w,i32_w]
  rfl
 refine pure_ (i:=1) (N:=some 52) (v:=?_) (a':=?_) #[true,true,false,false,false,false,false,false,false,false] rfl rfl (any_of HT_.out (by kernel_rfl)) (fun _ _ _ h=>h) (Or.inl ⟨by rfl,?_⟩) ?_ ?_
 rotate_left
 ·intro w'
  go_simp
  with_reducible rfl
 rotate_left
 ·simp only [Act.put,List.setIfInBounds_toArray,List.set_cons_zero,List.set_cons_succ,i64_w,i32_w]
  rfl
 refine pure_ (i:=2) (N:=some 53) (v:=?_) (a':=?_) #[true,true,true,false,false,false,false,false,false,false] rfl rfl (any_of HT_.out (by kernel_rfl)) (fun _ _ _ h=>h) (Or.inl ⟨by rfl,?_⟩) ?_ ?_
 rotate_left
 ·intro w'
  go_simp
  with_reducible rfl
 rotate_left
 ·simp only [Act.put,List.setIfInBounds_toArray,List.set_cons_zero,List.set_cons_succ,i64_w,i32_w]
  rfl
 refine pure_ (i:=4) (N:=some 55) (v:=?_) (a':=?_) #[true,true,true,false,true,false,false,false,false,false] rfl rfl (any_of HT_.out (by kernel_rfl)) (fun _ _ _ h=>h) (Or.inl ⟨by rfl,?_⟩) ?_ ?_
 rotate_left
 ·intro w'
  go_simp
  with_reducible rfl
 rotate_left
 ·simp only [Act.put,List.setIfInBounds_toArray,List.set_cons_zero,List.set_cons_succ,i64_w,i32_w]
  rfl
 refine pure_ (i:=5) (N:=some 56) (v:=?_) (a':=?_) #[true,true,true,false,true,true,false,false,false,false] rfl rfl (any_of HT_.out (by kernel_rfl)) (fun _ _ _ h=>h) (Or.inl ⟨by rfl,?_⟩) ?_ ?_
 rotate_left
 ·intro w'
  go_simp
  with_reducible rfl
 rotate_left
 ·simp only [Act.put,List.setIfInBounds_toArray,List.set_cons_zero,List.set_cons_succ,i64_w,i32_w]
  rfl
 refine pure_ (i:=6) (N:=some 57) (v:=?_) (a':=?_) #[true,true,true,false,true,true,true,false,false,false] rfl rfl (any_of HT_.out (by kernel_rfl)) (fun _ _ _ h=>h) (Or.inl ⟨by rfl,?_⟩) ?_ ?_
 rotate_left
 ·intro w'
  go_simp
  with_reducible rfl
 rotate_left
 ·simp only [Act.put,List.setIfInBounds_toArray,List.set_cons_zero,List.set_cons_succ,i64_w,i32_w]
  rfl
 refine one_ (i:=3) (N:=some 54) #[true,true,true,true,true,true,true,false,false,false] rfl rfl (one_of HT_.out (by kernel_rfl)) (by decide) (fun K hK=>?_)
 refine goes_ Tryz.func94 (by kernel_rfl) rfl #[.int .u64 (IntKind.u64.wrap (Int.tdiv t138 t140))] (by rfl) rfl rfl (by (try simp only [List.map_toArray,List.map_cons,List.map_nil]);first|done|rfl|(simp only [List.length_drop,List.length_take];rfl)) ?_
 with_reducible refine (of_own k11 (IntKind.u64.wrap (Int.tdiv t138 t140)) _ _ A11.out).mono ?_
 rintro e w14 ⟨v143,rfl,ho0,hb⟩
 refine ⟨_,rfl,?_⟩
 have n0_:=Aside0.mk (Kd.R_lower (Kd.R_mono (ok':=fun k_=>(w.heap.size≤k_)) ho0 (fun k_ hk_=>(Nat.le_trans (below_size (by repeat (first|(with_reducible first|exact HB.out|apply below_alloc|apply pw_below_drewN|apply below_drew1)|exact HB.out))) hk_))) (below_size (by repeat (first|(with_reducible first|exact HB.out|apply below_alloc|apply pw_below_drewN|apply below_drew1)|exact HB.out))))
 have n1_:=Aside0.mk (below_step (by repeat (first|(with_reducible first|exact HB.out|apply below_alloc|apply pw_below_drewN|apply below_drew1)|exact HB.out)) hb)
 clear HB
 have HO144:=n0_
 have HB:=n1_
 clear n0_ n1_
 (try clear hb)
 (try clear hb2)
 (try clear hk)
 (try clear hi)
 (try clear ho0)
 refine hK.out _ _ trivial (fun hHeld=>?_)
 clear hK K
 refine norm_ (a':=?_) ?_ ?_
 rotate_left
 ·show Act.put _ (some 54) _ = _
  simp only [Act.put,List.setIfInBounds_toArray,List.set_cons_zero,List.set_cons_succ,i64_w,i32_w]
  rfl
 refine one_ (i:=7) (N:=some 58) #[true,true,true,true,true,true,true,true,false,false] rfl rfl (one_of HT_.out (by kernel_rfl)) (by decide) (fun K hK=>?_)
 refine goes_ Tryz.func94 (by kernel_rfl) rfl #[.int .u64 (Int.tmod t138 t140)] (by rfl) rfl rfl (by (try simp only [List.map_toArray,List.map_cons,List.map_nil]);first|done|rfl|(simp only [List.length_drop,List.length_take];rfl)) ?_
 with_reducible refine (natural_of.calls k12 (Int.tmod t138 t140) _ _ A12.out).mono ?_
 rintro e w15 ⟨v146,rfl,ho0,hb⟩
 refine ⟨_,rfl,?_⟩
 have n0_:=Aside0.mk (Kd.R_below (by (with_reducible repeat (first|apply Kd.R_alloc|apply Kd.R_drewN|apply Kd.R_drew));exact HO144.out) hb)
 have n1_:=Aside0.mk (Kd.V_lower (Kd.V_mono (ok':=fun k_=>(w.heap.size≤k_)∧some k_≠(v143:Value).ownBlock) ho0 (fun k_ hk_=>⟨(Nat.le_trans (below_size (by repeat (first|(with_reducible first|exact HB.out|apply below_alloc|apply pw_below_drewN|apply below_drew1)|exact HB.out))) hk_),Kd.fresh' (Kd.R_lt (by (with_reducible repeat (first|apply Kd.R_alloc|apply Kd.R_drewN|apply Kd.R_drew));exact HO144.out)) k_ hk_⟩)) (below_size (by repeat (first|(with_reducible first|exact HB.out|apply below_alloc|apply pw_below_drewN|apply below_drew1)|exact HB.out))))
 have n2_:=Aside0.mk (below_step (by repeat (first|(with_reducible first|exact HB.out|apply below_alloc|apply pw_below_drewN|apply below_drew1)|exact HB.out)) hb)
 clear HO144
 clear HB
 have HO144:=n0_
 have HO147:=n1_
 have HB:=n2_
 clear n0_ n1_ n2_
 (try clear hb)
 (try clear hb2)
 (try clear hk)
 (try clear hi)
 (try clear ho0)
 refine hK.out _ _ trivial (fun hHeld=>?_)
 clear hK K
 refine norm_ (a':=?_) ?_ ?_
 rotate_left
 ·show Act.put _ (some 58) _ = _
  simp only [Act.put,List.setIfInBounds_toArray,List.set_cons_zero,List.set_cons_succ,i64_w,i32_w]
  rfl
 refine pure_ (i:=8) (N:=some 4) (v:=?_) (a':=?_) #[true,true,true,true,true,true,true,true,true,false] rfl rfl (any_of HT_.out (by kernel_rfl)) (fun _ _ _ h=>h) (Or.inl ⟨by rfl,?_⟩) ?_ ?_
 rotate_left
 ·intro w'
  go_simp
  with_reducible rfl
 rotate_left
 ·simp only [Act.put,List.setIfInBounds_toArray,List.set_cons_zero,List.set_cons_succ,i64_w,i32_w]
  rfl
 refine pure_ (i:=9) (N:=some 5) (v:=?_) (a':=?_) #[true,true,true,true,true,true,true,true,true,true] rfl rfl (any_of HT_.out (by kernel_rfl)) (fun _ _ _ h=>h) (Or.inl ⟨by rfl,?_⟩) ?_ ?_
 rotate_left
 ·intro w'
  go_simp
  with_reducible rfl
 rotate_left
 ·simp only [Act.put,List.setIfInBounds_toArray,List.set_cons_zero,List.set_cons_succ,i64_w,i32_w]
  rfl
 refine done_ (done_of HT_.out (by kernel_rfl)) ?_
 try go_wp2
 go_ret2
 exact ⟨_,_,rfl,Kd.R_mono (by (with_reducible repeat (first|apply Kd.R_alloc|apply Kd.R_drewN|apply Kd.R_drew));exact HO144.out) (fun _ _=>trivial),Kd.V_mono HO147.out (fun k hk=>⟨.inr hk.1,hk.2⟩),(by repeat (first|(with_reducible first|exact HB.out|apply below_alloc|apply pw_below_drewN|apply below_drew1)|exact HB.out))⟩
end Go.Proofs.YtaknchlegjcdhaaGreatDoor.Pr
namespace Go.Proofs.YtaknchlegjcdhaaGreatDoor.Pr
set_option linter.unusedVariables false
set_option linter.unusedSimpArgs false
open Go.RowKit Go.Proofs.YtaknchlegjcdhaaGreatDoor.NatTh Go.Proofs.YtaknchlegjcdhaaGreatDoorW.PrintWords Go.Proofs.YtaknchlegjcdhaaGreatDoorW.PrintLast Go.Proofs.YtaknchlegjcdhaaGreatDoorW.PrintMore
set_option maxHeartbeats 8000000 in
set_option maxRecDepth 100000 in
theorem divide_big (P0_:Nat→Prop) (A0:Option Addr) (c0:Nat) (l0:List Int) (A1:Option Addr) (c1:Nat) (l1:List Int) (a b:Nat) (w:World) (hs0:Kd.V (Kd.int .u32) 95 w w.heap.size (fun k_=>P0_ k_) (.slice A0 l0.length c0) l0) (hr1:Kd.C (Kd.int .u32) w A1 l1.length l1) (hc1:l1.length≤c1) (h0:l0.length≤549755813888) (h1:l1.length≤549755813888) (e0:l0 = numOf a) (e1:l1 = numOf b) (hb0:0 < b) (hlt:¬ a < b) (hx0:¬ l0.length≤2) (hx1:2≤l1.length) :
  Calls Tryz.prog 69 #[.slice A0 l0.length c0,.slice A1 l1.length c1] w fun e w'=>∃ v0_ v1_:Value,e = .returned (.tuple #[v0_,v1_])∧Kd.R (Kd.int .u32) 95 w' w.heap.size (fun _=>True) v0_ (numOf (a / b))∧Kd.V (Kd.int .u32) 95 w' w.heap.size (fun k_=>(P0_ k_ ∨ w.heap.size≤k_)∧some k_≠(v0_:Value).ownBlock) v1_ (numOf (a % b))∧Below w.heap.size w w':=by
 have hr0:=(Kd.V_reads' hs0).2.2
 have hc0:=(Kd.V_reads' hs0).2.1
 have HS0:=Aside0.mk hs0
 have HR0:=Aside0.mk hr0
 have HC0:=Aside0.mk hc0
 have HR1:=Aside0.mk hr1
 have HC1:=Aside0.mk hc1
 have HB:=Aside0.mk (Below.refl w.heap.size w)
 obtain ⟨kc,A3⟩:∃ k,natural_num_compare.f k l0 l1 = some (ord a b):=by rw [e0,e1];exact (compare_ev a b (ok_len (by rw [← e0];exact h0)) (ok_len (by rw [← e1];exact h1))).1.rounds
 have E0:=Aside0.mk e0
 have E1:=Aside0.mk e1
 clear hs0 hr0 hc0 hr1 hc1 e0 e1
 obtain ⟨t137,ht⟩:∃ t,ord a b = t:=⟨_,rfl⟩
 rw [ht] at A3
 have c4b0:decide (t137 < 0) = false:=decide_eq_false (by rw [← ht];unfold ord;rw [if_neg hlt];split<;>decide)
 replace A3:=Aside0.mk A3
 clear ht
 obtain ⟨t138,A5⟩:∃ t,natural_num_small.f l0 = some (t,false):=⟨0,by rw [E0.out,small_eq,if_neg (by rw [← E0.out];exact hx0)]⟩
 obtain ⟨t140,t141,A6⟩:∃ t s,natural_num_small.f l1 = some (t,s):=by rw [E1.out,small_eq];split<;>exact ⟨_,_,rfl⟩
 obtain ⟨tp,n1,f,N⟩:=bigN (Nat.not_lt.1 hlt) (by rw [← E0.out];exact h0) (by rw [← E1.out];exact hx1)
 rw [← E0.out,← E1.out] at N
 obtain ⟨vv,hvv⟩:∃ v,v = numOf (b * f):=⟨_,rfl⟩
 obtain ⟨uu,huu⟩:∃ u,u = numOf (a * f) ++ [0]:=⟨_,rfl⟩
 have hul:uu.length = (numOf (a * f)).length + 1:=by rw [huu];simp
 obtain ⟨nq,hnq⟩:∃ n,n = (numOf (a * f)).length + 1 - (numOf (b * f)).length:=⟨_,rfl⟩
 obtain ⟨qq,hqq⟩:∃ q:List Int,q = List.replicate nq 0:=⟨_,rfl⟩
 have hql:qq.length = nq:=by rw [hqq,List.length_replicate]
 have hO:=N.O
 have hlim:=N.lim
 have hle:=N.le
 have hne:=N.ne
 have hkl:=N.kl
 rw [← hnq,← hul,← huu,← hqq,← hvv,← hql] at hO
 rw [← hvv] at hkl hle hnq
 obtain ⟨kf,A24⟩:=N.k0
 obtain ⟨k25,A25⟩:=N.k1
 obtain ⟨k27,A27⟩:=N.k2
 rw [← hvv] at A27
 have hnw:wrap64 ((uu.length:Int) - (vv.length:Int)) = (nq:Int):=w64n (by omega) (by omega)
 have hnw':IntKind.i64.wrap ((uu.length:Int) - (vv.length:Int)) = (nq:Int):=(i64_w _).trans hnw
 have hz:wrap64 ((qq.length:Int) - 1) = (qq.length:Int) - 1:=w64 (by omega) (by omega)
 have LU:Aside0 (0 < uu.length):=⟨by omega⟩
 have LV:Aside0 (0 < vv.length):=⟨by omega⟩
 have LQ:Aside0 ((nq:Int).toNat≤70368744177664):=⟨by rw [Int.toNat_natCast];omega⟩
 have LQ2:Aside0 (0 < qq.length):=⟨by omega⟩
 have LM:=Aside0.mk hlim
 have c35b0:((uu.length:Int) == (l0.length:Int)) = false:=beq_eq_false_iff_ne.mpr (by omega)
 have c35b1:(uu.length == l0.length) = false:=beq_eq_false_iff_ne.mpr (by omega)
 have c16:((l1.length:Int) == 1) = false:=beq_eq_false_iff_ne.mpr (by omega)
 have c16b:¬ l1.length = 1:=by omega
 have p155:(0≤(n1:Int)) = True:=eq_true (Int.natCast_nonneg _)
 have n1l:=N.n1l
 have q155:((n1:Int) < (l1.length:Int)) = True:=eq_true (by omega)
 have q155b:(n1 < l1.length) = True:=eq_true n1l
 obtain ⟨ad,ead,hcell⟩:=Kd.at_int HR1.out (n1:Int) (Int.natCast_nonneg _) (by omega)
 subst ead
 rw [Int.toNat_natCast,N.te] at hcell
 have e1:=N.n1e
 have e1':IntKind.i64.wrap ((l1.length:Int) - 1) = (n1:Int):=(i64_w _).trans N.n1e
 have e2:=N.wt
 have e3:=N.wt1
 have e4:(tp + 1 == 0) = false:=beq_eq_false_iff_ne.mpr N.tn
 have e4b:(tp + 1 != 0) = true:=bne_iff_ne.mpr N.tn
 have e4c:=N.tn
 have e5:=N.df
 have e6:=N.wf
 have F0:=Aside0.mk N.f0
 have F1:=Aside0.mk N.f1
 have Nu:=Aside0.mk huu
 have Nq:=Aside0.mk hqq
 have Nv:=Aside0.mk hvv
 have NO:=Aside0.mk hO
 have NQ:=Aside0.mk hql
 replace A5:=Aside0.mk A5
 replace A6:=Aside0.mk A6
 replace A24:=Aside0.mk A24
 replace A25:=Aside0.mk A25
 replace A27:=Aside0.mk A27
 replace hz:=Aside0.mk hz
 clear N huu hqq hvv hO hql hlim hle hne hkl hnq hul hx0 hx1 n1l
 go_enter Tryz.func69,Tryz.ntmps69
 go_wp2_with (first|((with_reducible refine gate_callee (f:=66) rfl ?_);refine goesL_ (some 33) rfl rfl Tryz.func66 (by kernel_rfl) rfl #[.slice A0 l0.length c0,.slice (some ad) l1.length c1] rfl (by (try simp only [List.map_toArray,List.map_cons,List.map_nil]);first|done|rfl|(simp only [List.length_drop,List.length_take];rfl)|(simp [*];done)) ?_;(with_reducible refine (natural_num_compare.calls kc _ _ l0 _ _ l1 t137 _ ?side1 ?side2 ?side3 ?side4 A3.out).mono ?_);(case side1=>repeat (first|exact HR0.out|(with_reducible refine Kd.C_alloc ?_ _)|(with_reducible refine Kd.C_drewN ?_ _)|(with_reducible refine Kd.C_drew ?_)));(case side2=>exact HC0.out);(case side3=>repeat (first|exact HR1.out|(with_reducible refine Kd.C_alloc ?_ _)|(with_reducible refine Kd.C_drewN ?_ _)|(with_reducible refine Kd.C_drew ?_)));(case side4=>exact HC1.out);rintro e w' ⟨rfl,⟨nd,rfl⟩⟩;refine ⟨_,rfl,?_⟩)|((with_reducible refine gate_callee (f:=93) rfl ?_);refine goesL_ (some 38) rfl rfl Tryz.func93 (by kernel_rfl) rfl #[.slice A0 l0.length c0] rfl (by (try simp only [List.map_toArray,List.map_cons,List.map_nil]);first|done|rfl|(simp only [List.length_drop,List.length_take];rfl)|(simp [*];done)) ?_;(with_reducible refine (natural_num_small.calls _ _ l0 t138 false _ ?side1 ?side2 A5.out).mono ?_);(case side1=>repeat (first|exact HR0.out|(with_reducible refine Kd.C_alloc ?_ _)|(with_reducible refine Kd.C_drewN ?_ _)|(with_reducible refine Kd.C_drew ?_)));(case side2=>exact HC0.out);rintro e w' ⟨rfl,⟨nd,rfl⟩⟩;refine ⟨_,rfl,?_⟩)|((with_reducible refine gate_callee (f:=93) rfl ?_);refine goesL_ (some 43) rfl rfl Tryz.func93 (by kernel_rfl) rfl #[.slice (some ad) l1.length c1] rfl (by (try simp only [List.map_toArray,List.map_cons,List.map_nil]);first|done|rfl|(simp only [List.length_drop,List.length_take];rfl)|(simp [*];done)) ?_;(with_reducible refine (natural_num_small.calls _ _ l1 t140 t141 _ ?side1 ?side2 A6.out).mono ?_);(case side1=>repeat (first|exact HR1.out|(with_reducible refine Kd.C_alloc ?_ _)|(with_reducible refine Kd.C_drewN ?_ _)|(with_reducible refine Kd.C_drew ?_)));(case side2=>exact HC1.out);rintro e w' ⟨rfl,⟨nd,rfl⟩⟩;refine ⟨_,rfl,?_⟩)|((with_reducible refine gate_callee (f:=94) rfl ?_);refine goesL_ (some 80) rfl rfl Tryz.func94 (by kernel_rfl) rfl #[.int .u64 (f:Int)] rfl (by (try simp only [List.map_toArray,List.map_cons,List.map_nil]);first|done|rfl|(simp only [List.length_drop,List.length_take];rfl)|(simp [*];done)) ?_;(with_reducible refine (natural_of.calls kf (f:Int) (numOf f) _ A24.out).mono ?_);rintro e w29 ⟨v157,rfl,ho0,hb⟩;refine ⟨_,rfl,?_⟩;have n0_:=Aside0.mk (Kd.V_lower (Kd.V_mono (ok':=fun k_=>(w.heap.size≤k_)) ho0 (fun k_ hk_=>(Nat.le_trans (below_size (by repeat (first|(with_reducible first|exact HB.out|apply below_alloc|apply pw_below_drewN|apply below_drew1)|exact HB.out))) hk_))) (below_size (by repeat (first|(with_reducible first|exact HB.out|apply below_alloc|apply pw_below_drewN|apply below_drew1)|exact HB.out))));have n1_:=Aside0.mk (below_step (by repeat (first|(with_reducible first|exact HB.out|apply below_alloc|apply pw_below_drewN|apply below_drew1)|exact HB.out)) hb);clear HB;have HO158:=n0_;have HB:=n1_;clear n0_ n1_ ho0 hb;obtain ⟨Ao30,co30,eo30⟩:=Kd.V_slice HO158.out;subst eo30)|((with_reducible refine gate_callee (f:=96) rfl ?_);refine goesL_ (some 83) rfl rfl Tryz.func96 (by kernel_rfl) rfl #[.slice A0 l0.length c0,.slice Ao30 (numOf f).length co30] rfl (by (try simp only [List.map_toArray,List.map_cons,List.map_nil]);first|done|rfl|(simp only [List.length_drop,List.length_take];rfl)|(simp [*];done)) ?_;(with_reducible refine (times_own k25 _ _ l0 _ _ (numOf f) (numOf (a * f)) _ ?side1 ?side2 ?side3 ?side4 A25.out).mono ?_);(case side1=>repeat (first|exact (Kd.C_below HR0.out HB.out)|(with_reducible refine Kd.C_alloc ?_ _)|(with_reducible refine Kd.C_drewN ?_ _)|(with_reducible refine Kd.C_drew ?_)));(case side2=>exact HC0.out);(case side3=>repeat (first|exact (Kd.V_reads' HO158.out).2.2|(with_reducible refine Kd.C_alloc ?_ _)|(with_reducible refine Kd.C_drewN ?_ _)|(with_reducible refine Kd.C_drew ?_)));(case side4=>exact (Kd.V_reads' HO158.out).2.1);rintro e w31 ⟨v160,rfl,ho0,hb⟩;refine ⟨_,rfl,?_⟩;have n0_:=Aside0.mk (Kd.V_elder' (by (with_reducible repeat (first|apply Kd.V_alloc|apply Kd.V_drewN|apply Kd.V_drew));exact HO158.out) (Kd.R_base ho0) hb);have n1_:=Aside0.mk (Kd.R_mono (Kd.R_lower ho0 (below_size (by repeat (first|(with_reducible first|exact HB.out|apply below_alloc|apply pw_below_drewN|apply below_drew1)|exact HB.out)))) (ok':=fun k_=>(w.heap.size≤k_)) (fun k_ h_=>Nat.le_trans (below_size (by repeat (first|(with_reducible first|exact HB.out|apply below_alloc|apply pw_below_drewN|apply below_drew1)|exact HB.out))) h_));have n2_:=Aside0.mk (below_step (by repeat (first|(with_reducible first|exact HB.out|apply below_alloc|apply pw_below_drewN|apply below_drew1)|exact HB.out)) hb);clear HO158;clear HB;have HO158:=n0_;have HO161:=n1_;have HB:=n2_;clear n0_ n1_ n2_ ho0 hb)|((with_reducible refine gate_builtin (b:=.append) (xs:=#[.tmp 83,.tmp 84]) rfl ?_);at_builtin;refine Kd.R_append (Kd.int .u32) (w0:=w) w.heap.size rfl (.tmp 83) (.tmp 84) 74 95 (.int .u32 0) 4 rfl Tryz.underlying74 info95 rfl (by decide) (by omega) v160 (numOf (a * f)) 0 [.int .u32 0] (fun k_=>(w.heap.size≤k_)) (fun _=>False) rfl rfl ?aP (fun _ hk=>hk.elim) ?aF ?aO ?aB ?aS ?aL ?_;(case aP=>exact rfl);(case aB=>exact (by repeat (first|(with_reducible first|exact HB.out|apply below_alloc|apply pw_below_drewN|apply below_drew1)|exact HB.out)));(case aF=>exact (fun k_ hk=>(Nat.le_trans (below_size (by repeat (first|(with_reducible first|exact HB.out|apply below_alloc|apply pw_below_drewN|apply below_drew1)|exact HB.out))) hk)));(case aO=>exact (by (with_reducible repeat (first|apply Kd.R_alloc|apply Kd.R_drewN|apply Kd.R_drew));exact HO161.out));(case aS=>exact (below_size (by repeat (first|(with_reducible first|exact HB.out|apply below_alloc|apply pw_below_drewN|apply below_drew1)|exact HB.out))));(case aL=>have:=LM.out;omega);intro v163 w32 ho hb hg hat;rw [← Nu.out] at ho;have n0_:=Aside0.mk (Kd.V_afterv (ok:=(fun k_=>(w.heap.size≤k_))) (by (with_reducible repeat (first|apply Kd.V_alloc|apply Kd.V_drewN|apply Kd.V_drew));exact HO158.out) hg hat);have n1_:=Aside0.mk (hb);have n2_:=Aside0.mk (ho);clear HO158;clear HB;clear HO161;have HO158:=n0_;have HB:=n1_;have HO164:=n2_;clear n0_ n1_ n2_;clear ho hb hg hat)|((with_reducible refine gate_callee (f:=96) rfl ?_);refine goesL_ (some 88) rfl rfl Tryz.func96 (by kernel_rfl) rfl #[.slice (some ad) l1.length c1,.slice Ao30 (numOf f).length co30] rfl (by (try simp only [List.map_toArray,List.map_cons,List.map_nil]);first|done|rfl|(simp only [List.length_drop,List.length_take];rfl)|(simp [*];done)) ?_;(with_reducible refine (times_own k27 _ _ l1 _ _ (numOf f) vv _ ?side1 ?side2 ?side3 ?side4 A27.out).mono ?_);(case side1=>repeat (first|exact (Kd.C_below HR1.out HB.out)|(with_reducible refine Kd.C_alloc ?_ _)|(with_reducible refine Kd.C_drewN ?_ _)|(with_reducible refine Kd.C_drew ?_)));(case side2=>exact HC1.out);(case side3=>repeat (first|exact (Kd.V_reads' HO158.out).2.2|(with_reducible refine Kd.C_alloc ?_ _)|(with_reducible refine Kd.C_drewN ?_ _)|(with_reducible refine Kd.C_drew ?_)));(case side4=>exact (Kd.V_reads' HO158.out).2.1);rintro e w33 ⟨v166,rfl,ho0,hb⟩;refine ⟨_,rfl,?_⟩;have n0_:=Aside0.mk (Kd.V_elder' (by (with_reducible repeat (first|apply Kd.V_alloc|apply Kd.V_drewN|apply Kd.V_drew));exact HO158.out) (Kd.R_base ho0) hb);have n1_:=Aside0.mk (Kd.R_elder' (by (with_reducible repeat (first|apply Kd.R_alloc|apply Kd.R_drewN|apply Kd.R_drew));exact HO164.out) (Kd.R_base ho0) hb);have n2_:=Aside0.mk (Kd.R_lower (Kd.R_new' (Kd.R_newM (M:=fun k_=>(w.heap.size≤k_)) ho0 (below_size (by repeat (first|(with_reducible first|exact HB.out|apply below_alloc|apply pw_below_drewN|apply below_drew1)|exact HB.out))) (fun k_ h_=>h_)) (Kd.R_lt (by (with_reducible repeat (first|apply Kd.R_alloc|apply Kd.R_drewN|apply Kd.R_drew));exact HO164.out))) (below_size (by repeat (first|(with_reducible first|exact HB.out|apply below_alloc|apply pw_below_drewN|apply below_drew1)|exact HB.out))));have n3_:=Aside0.mk (below_step (by repeat (first|(with_reducible first|exact HB.out|apply below_alloc|apply pw_below_drewN|apply below_drew1)|exact HB.out)) hb);clear HO158;clear HO164;clear HB;have HO158:=n0_;have HO164:=n1_;have HO167:=n2_;have HB:=n3_;clear n0_ n1_ n2_ n3_ ho0 hb;obtain ⟨gv,cv,ev,hv1,hv2,hv3⟩:=Kd.R_form HO167.out LV.out;subst ev;obtain ⟨gu,cu,eu,hu1,hu2,hu3⟩:=Kd.R_form HO164.out LU.out;subst eu;clear hv1 hv2 hv3 hu1 hu2 hu3)|((with_reducible refine gate_dst (N:=103) rfl ?_);refine Kd.R_make (Kd.int .u32) _ 95 rfl (N:=103) rfl 74 _ _ rfl (nq:Int) rfl rfl Tryz.underlying74 (.int .u32 0) 4 info95 rfl (by decide) (by omega) 0 (ok:=fun _=>True) (okp:=fun _=>True) rfl (fun _ hk=>hk) trivial (Int.natCast_nonneg _) (Nat.le_trans (Nat.mul_le_mul_right _ LQ.out) (by omega)) (Below.refl _ _) (Nat.le_refl _) ?_;intro v172 w43 ho44 hb hg_ hnew_;clear hg_ hnew_;rw [Int.toNat_natCast,← Nq.out] at ho44;have n0_:=Aside0.mk (Kd.R_elder' (by (with_reducible repeat (first|apply Kd.R_alloc|apply Kd.R_drewN|apply Kd.R_drew));exact HO164.out) (Kd.R_base ho44) hb);have n1_:=Aside0.mk (Kd.R_elder' (by (with_reducible repeat (first|apply Kd.R_alloc|apply Kd.R_drewN|apply Kd.R_drew));exact HO167.out) (Kd.R_base ho44) hb);have n2_:=Aside0.mk (Kd.R_lower (Kd.R_new' (Kd.R_new' (Kd.R_newM (M:=fun k_=>(w.heap.size≤k_)) ho44 (below_size (by repeat (first|(with_reducible first|exact HB.out|apply below_alloc|apply pw_below_drewN|apply below_drew1)|exact HB.out))) (fun k_ h_=>h_)) (Kd.R_lt (by (with_reducible repeat (first|apply Kd.R_alloc|apply Kd.R_drewN|apply Kd.R_drew));exact HO164.out))) (Kd.R_lt (by (with_reducible repeat (first|apply Kd.R_alloc|apply Kd.R_drewN|apply Kd.R_drew));exact HO167.out))) (below_size (by repeat (first|(with_reducible first|exact HB.out|apply below_alloc|apply pw_below_drewN|apply below_drew1)|exact HB.out))));have n4_:=Aside0.mk (Kd.V_elder' (by (with_reducible repeat (first|apply Kd.V_alloc|apply Kd.V_drewN|apply Kd.V_drew));exact HO158.out) (Kd.R_base ho44) hb);have n3_:=Aside0.mk (below_step (by repeat (first|(with_reducible first|exact HB.out|apply below_alloc|apply pw_below_drewN|apply below_drew1)|exact HB.out)) hb);clear HO164;clear HO167;clear HB;clear HO158;have HO164:=n0_;have HO167:=n1_;have HO173:=n2_;have HO158:=n4_;have HB:=n3_;clear n0_ n1_ n2_ n3_ n4_ hb ho44;obtain ⟨gq,cq,eq,hv1,hv2,hv3⟩:=Kd.R_form HO173.out LQ2.out;subst eq;clear hv1 hv2 hv3))
 have HW43:=Aside0.mk (show w.heap.size≤w43.heap.size from below_size HB.out)
 have HCU:=Aside0.mk (show vv.length≤cu by have h1:=(Kd.R_reads' HO164.out).2.1;have h2:=NO.out.lq;omega)
 have hap:=HO164.out.1 gu rfl
 have hap2:=HO167.out.1 gv rfl
 have hD:DW w.heap.size w43 w43 gu cu gv cv gq cq uu vv qq:=⟨Rw.of HO164.out,Rw.of HO167.out,Rw.of HO173.out,ne_own hap.1.2,ne_own hap.2,ne_own hap2.2,Below.refl _ _,fun _ _ _ _=>rfl⟩
 clear hap hap2 HO164 HO167 HO173
 refine outer_loop _ _ w.heap.size w43 w43 gu cu gv cv gq cq uu.length qq.length uu vv qq ((a * f:Nat):Int) _ _ _ _ _ _ _ _ _ _ _ _ _ _ _ _ _ _ _ _ _ _ _ _ _ _ _ _ _ _ _ _ _ _ _ _ _ _ _ _ _ _ _ _ _ _ _ _ _ _ _ _ _ _ _ _ _ _ _ _ _ _ _ _ _ _ _ _ _ _ _ _ _ _ _ _ _ _ _ _ _ _ _ _ _ _ _ _ _ _ _ _ _ _ _ _ _ _ _ _ _ _ _ _ _ _ _ _ _ _ _ _ _ _ _ _ _ _ _ _ _ _ _ _ _ _ _ _ _ _ _ _ _ _ _ _ _ _ _ _ _ _ _ _ _ _ _ _ _ _ _ _ _ _ _ _ _ _ _ _ _ _ _ _ _ _ _ _ _ _ _ _ _ _ _ _ _ _ _ _ _ _ _ _ _ _ _ _ _ _ _ _ _ _ _ _ _ _ _ _ _ _ _ _ _ _ _ _ _ _ _ _ _ _ _ _ _ _ _ _ _ _ _ _ _ _ _ _ _ _ _ _ _ _ _ _ _ _ _ _ _ _ _ _ _ _ _ _ _ _ _ _ _ _ _ _ _ _ _ _ _ _ _ _ _ _ _ _ _ _ _ _ _ _ _ _ _ _ _ _ _ _ _ _ _ _ _ _ _ _ _ _ _ _ _ hz.out rfl NO.out hD ?_
 intro W u2 q2 y15 y16 y17 y18 y19 y20 y21 y22 y23 y24 y25 y26 y107 y108 y109 y110 y111 y112 y113 y114 y115 y116 y117 y118 y119 y120 y121 y122 y123 y124 y125 y126 y127 y128 y129 y130 y131 y132 y133 y134 y135 y136 y137 y138 y139 y140 y141 y142 y143 y144 y145 y146 y147 y148 y149 y150 y151 y152 y153 y154 y155 y156 y157 y158 y159 y160 y161 y162 y163 y164 y165 y166 y167 y168 y169 y170 y171 y172 y173 y174 y175 y176 y177 y178 y179 y180 y181 y182 y183 y184 y185 y186 y187 y188 y189 y190 y191 y192 y193 y194 y195 y196 y197 y198 y199 y200 y201 y202 y203 y204 y205 y206 y207 y208 y209 y210 y211 y212 y213 y214 y215 y216 y217 y218 y219 y220 y221 y222 y223 y224 y225 y226 y227 y228 y229 y230 y231 y232 y233 y234 y235 y236 y237 y238 y239 y240 y241 y242 y243 y244 y245 y246 y247 y248 y249 y250 y251 y252 y253 y254 y255 y256 y257 y258 y259 y260 y261 y262 y263 y264 y265 y266 y267 y268 y269 y270 y271 y272 y273 y274 y275 y276 y277 y278 y279 y280 y281 hD2 hO2 hq2
 have hcu:vv.length≤cu:=HCU.out
 have EN:EndN a b f u2 vv q2:=by
  have h:=hO2
  rw [Nv.out] at h ⊢
  exact endN hb0 F0.out F1.out (by rw [← E0.out];exact h0) (by rw [← E1.out];exact h1) h
 have hle:=EN.le
 have htl:(u2.take vv.length).length = vv.length:=by rw [List.length_take];exact Nat.min_eq_left hle
 have HF:=Aside0.mk (Kd.V_mono (ok':=fun k=>w.heap.size≤k) (Kd.V_step HO158.out (fun k hk hlt=>hD2.rest k (ne_own hk.1.1.2) (ne_own hk.2) hlt)) (fun k hk=>hk.1.1.1))
 have hT:=R_take hD2.ru hle
 rw [← htl] at hT
 rw [List.take_eq_take_iff.2 (show min (u2.take vv.length).length u2.length = min vv.length u2.length by rw [htl])] at hT
 have HT:=Aside0.mk hT
 have HTL:=Aside0.mk htl
 have HQL:=Aside0.mk hq2
 have HQQ:=Aside0.mk (show Kd.R (Kd.int .u32) 95 W w.heap.size (fun k=>k = gq) (.slice (some ⟨gq,0,none⟩) q2.length cq) q2 from hD2.rq)
 have HB2:=Aside0.mk (HB.out.trans hD2.below)
 obtain ⟨k51,M1⟩:=EN.k1
 obtain ⟨k52,M2⟩:=EN.k2
 obtain ⟨k53,M3⟩:=EN.k3
 have M4:=EN.k4
 replace M1:=Aside0.mk M1
 replace M2:=Aside0.mk M2
 replace M3:=Aside0.mk M3
 replace M4:=Aside0.mk M4
 clear HB hD2 hO2 hq2 EN hle htl hT HO158
 have HB:=HB2
 clear HB2
 go_wp2_with (first|((with_reducible refine gate_callee (f:=93) rfl ?_);refine goesL_ (some 284) rfl rfl Tryz.func93 (by kernel_rfl) rfl #[.slice Ao30 (numOf f).length co30] rfl (by (try simp only [List.map_toArray,List.map_cons,List.map_nil]);first|done|rfl|(simp only [List.length_drop,List.length_take];rfl)|(simp [*];done)) ?_;(with_reducible refine (natural_num_small.calls _ _ (numOf f) (f:Int) true _ ?side1 ?side2 M4.out).mono ?_);(case side1=>repeat (first|exact (Kd.V_reads' HF.out).2.2|(with_reducible refine Kd.C_alloc ?_ _)|(with_reducible refine Kd.C_drewN ?_ _)|(with_reducible refine Kd.C_drew ?_)));(case side2=>exact (Kd.V_reads' HF.out).2.1);rintro e w' ⟨rfl,⟨nd,rfl⟩⟩;refine ⟨_,rfl,?_⟩)|((with_reducible refine gate_callee (f:=97) rfl ?_);refine goesL_ (some 291) rfl rfl Tryz.func97 (by kernel_rfl) rfl #[.slice (some ⟨gu,0,none⟩) (u2.take vv.length).length cu] rfl (by (try simp only [List.map_toArray,List.map_cons,List.map_nil]);first|(rw [HTL.out];done)|(rw [HTL.out];rfl)|(simp only [HTL.out];rfl)|rfl) ?_;(with_reducible refine (trim_own k51 w.heap.size (fun k_=>k_ = gu) _ _ (u2.take vv.length) (numOf (a % b * f)) _ ?side1 M1.out).mono ?_);(case side1=>exact (by (with_reducible repeat (first|apply Kd.R_alloc|apply Kd.R_drewN|apply Kd.R_drew));exact HT.out));rintro e w51 ⟨v291,rfl,ho0,hb⟩;refine ⟨_,rfl,?_⟩;have n0_:=Aside0.mk (Kd.R_below (by (with_reducible repeat (first|apply Kd.R_alloc|apply Kd.R_drewN|apply Kd.R_drew));exact HQQ.out) hb);have n1_:=Aside0.mk (below_step (by repeat (first|(with_reducible first|exact HB.out|apply below_alloc|apply pw_below_drewN|apply below_drew1)|exact HB.out)) hb);have HO291:=Aside0.mk ho0;clear HQQ HB;have HQQ:=n0_;have HB:=n1_;clear n0_ n1_ ho0 hb;obtain ⟨Ao51,co51,eo51⟩:=Kd.R_slice HO291.out;subst eo51)|((with_reducible refine gate_callee (f:=95) rfl ?_);refine goesL_ (some 293) rfl rfl Tryz.func95 (by kernel_rfl) rfl #[.slice Ao51 (numOf (a % b * f)).length co51,.int .u64 (f:Int)] rfl (by (try simp only [List.map_toArray,List.map_cons,List.map_nil]);first|done|rfl|(simp only [List.length_drop,List.length_take];rfl)|(simp [*];done)) ?_;(with_reducible refine (natural_num_by.calls k52 _ _ (numOf (a % b * f)) (f:Int) _ _ _ ?side1 ?side2 M2.out).mono ?_);(case side1=>repeat (first|exact (Kd.R_reads' HO291.out).2.2|(with_reducible refine Kd.C_alloc ?_ _)|(with_reducible refine Kd.C_drewN ?_ _)|(with_reducible refine Kd.C_drew ?_)));(case side2=>exact (Kd.R_reads' HO291.out).2.1);rintro e w52 ⟨v294,v295,rfl,ho0,ho1,hb⟩;refine ⟨_,rfl,?_⟩;have n0_:=Aside0.mk (Kd.R_below (by (with_reducible repeat (first|apply Kd.R_alloc|apply Kd.R_drewN|apply Kd.R_drew));exact HQQ.out) hb);have n2_:=Aside0.mk (Kd.V_lower (Kd.V_mono (ok':=fun k_=>(w.heap.size≤k_)∧some k_≠(.slice (some ⟨gq,0,none⟩) q2.length cq:Value).ownBlock) ho0 (fun k_ hk_=>⟨Nat.le_trans (below_size (by repeat (first|(with_reducible first|exact HB.out|apply below_alloc|apply pw_below_drewN|apply below_drew1)|exact HB.out))) hk_,Kd.fresh' (Kd.R_lt (by (with_reducible repeat (first|apply Kd.R_alloc|apply Kd.R_drewN|apply Kd.R_drew));exact HQQ.out)) k_ hk_⟩)) (below_size (by repeat (first|(with_reducible first|exact HB.out|apply below_alloc|apply pw_below_drewN|apply below_drew1)|exact HB.out))));have n1_:=Aside0.mk (below_step (by repeat (first|(with_reducible first|exact HB.out|apply below_alloc|apply pw_below_drewN|apply below_drew1)|exact HB.out)) hb);clear HQQ HB;have HQQ:=n0_;have HB:=n1_;have HR:=n2_;clear n0_ n1_ n2_ ho0 ho1 hb)|((with_reducible refine gate_callee (f:=97) rfl ?_);refine goesL_ (some 297) rfl rfl Tryz.func97 (by kernel_rfl) rfl #[.slice (some ⟨gq,0,none⟩) q2.length cq] rfl (by (try simp only [List.map_toArray,List.map_cons,List.map_nil]);first|(rw [HQL.out];done)|(rw [HQL.out];rfl)|rfl) ?_;(with_reducible refine (trim_own k53 w.heap.size (fun k_=>k_ = gq) _ _ q2 (numOf (a / b)) _ ?side1 M3.out).mono ?_);(case side1=>exact (by (with_reducible repeat (first|apply Kd.R_alloc|apply Kd.R_drewN|apply Kd.R_drew));exact HQQ.out));rintro e w53 ⟨v297,rfl,ho0,hb⟩;refine ⟨_,rfl,?_⟩;have n0_:=Aside0.mk (Kd.V_below (by (with_reducible repeat (first|apply Kd.V_alloc|apply Kd.V_drewN|apply Kd.V_drew));exact HR.out) hb);have n1_:=Aside0.mk (below_step (by repeat (first|(with_reducible first|exact HB.out|apply below_alloc|apply pw_below_drewN|apply below_drew1)|exact HB.out)) hb);have HO297:=Aside0.mk ho0;clear HR HB;have HR:=n0_;have HB:=n1_;clear n0_ n1_ ho0 hb))
 go_ret2
 refine ⟨_,_,rfl,Kd.R_mono (by (with_reducible repeat (first|apply Kd.R_alloc|apply Kd.R_drewN|apply Kd.R_drew));exact HO297.out) (fun _ _=>trivial),Kd.V_mono HR.out (fun k hk=>⟨.inr hk.1,fun e=>?_⟩),(by repeat (first|(with_reducible first|exact HB.out|apply below_alloc|apply pw_below_drewN|apply below_drew1)|exact HB.out))⟩
 have h297:=HO297.out.1 k e.symm
 subst h297
 exact hk.2 rfl
end Go.Proofs.YtaknchlegjcdhaaGreatDoor.Pr
namespace Go.Proofs.YtaknchlegjcdhaaGreatDoor.Pr
set_option linter.unusedVariables false
set_option linter.unusedSimpArgs false
open Go.RowKit Go.Proofs.YtaknchlegjcdhaaGreatDoor.NatTh Go.Proofs.YtaknchlegjcdhaaGreatDoorW.PrintWords Go.Proofs.YtaknchlegjcdhaaGreatDoorW.PrintLast Go.Proofs.YtaknchlegjcdhaaGreatDoorW.PrintMore
def natural_num_divide.f (l0 l1:List Int):Option (List Int × List Int):=if can l0∧can l1∧l1≠[] then some (numOf (nm l0 / nm l1),numOf (nm l0 % nm l1)) else none
theorem natural_num_divide.calls (P0_:Nat→Prop) (A0:Option Addr) (c0:Nat) (l0:List Int) (A1:Option Addr) (c1:Nat) (l1:List Int) (r1 r2:List Int) (w:World) (hs0:Kd.V (Kd.int .u32) 95 w w.heap.size (fun k_=>P0_ k_) (.slice A0 l0.length c0) l0) (hr1:Kd.C (Kd.int .u32) w A1 l1.length l1) (hc1:l1.length≤c1) (h:natural_num_divide.f l0 l1 = some (r1,r2)) :
  Calls Tryz.prog 69 #[.slice A0 l0.length c0,.slice A1 l1.length c1] w fun e w'=>∃ v0_ v1_:Value,e = .returned (.tuple #[v0_,v1_])∧Kd.R (Kd.int .u32) 95 w' w.heap.size (fun _=>True) v0_ r1∧Kd.V (Kd.int .u32) 95 w' w.heap.size (fun k_=>(P0_ k_ ∨ w.heap.size≤k_)∧some k_≠(v0_:Value).ownBlock) v1_ r2∧Below w.heap.size w w':=by
 unfold natural_num_divide.f at h
 by_cases hc:can l0∧can l1∧l1≠[]
 ·rw [if_pos hc] at h
  obtain ⟨⟨e0,h0⟩,⟨e1,h1⟩,hne⟩:=hc
  simp only [Option.some.injEq,Prod.mk.injEq] at h
  obtain ⟨rfl,rfl⟩:=h
  have hb0:0 < nm l1:=by
   by_cases e:nm l1 = 0
   ·rw [e,numOf_zero] at e1
    exact absurd e1 hne
   ·omega
  by_cases hlt:nm l0 < nm l1
  ·exact divide_less P0_ A0 c0 l0 A1 c1 l1 _ _ w hs0 hr1 hc1 h0 h1 e0 e1 hb0 hlt
  ·have hl:l1.length≤l0.length:=by
    have:=len_mono (Nat.not_lt.1 hlt)
    rw [← e0,← e1] at this
    exact this
   have hp:0 < l1.length:=by
    rw [e1]
    exact len_pos hb0
   by_cases hx0:l0.length≤2
   ·exact divide_small P0_ A0 c0 l0 A1 c1 l1 _ _ w hs0 hr1 hc1 h0 h1 e0 e1 hb0 hlt hx0 (by omega)
   ·by_cases hx1:l1.length = 1
    ·exact divide_one P0_ A0 c0 l0 A1 c1 l1 _ _ w hs0 hr1 hc1 h0 h1 e0 e1 hb0 hlt hx0 hx1
    ·exact divide_big P0_ A0 c0 l0 A1 c1 l1 _ _ w hs0 hr1 hc1 h0 h1 e0 e1 hb0 hlt hx0 (by omega)
 ·rw [if_neg hc] at h
  cases h
end Go.Proofs.YtaknchlegjcdhaaGreatDoor.Pr
namespace Go.Proofs.YtaknchlegjcdhaaGreatDoor.Pr
set_option linter.unusedVariables false
set_option linter.unusedSimpArgs false
open Go.RowKit Go.Proofs.YtaknchlegjcdhaaGreatDoor.NatTh Go.Proofs.YtaknchlegjcdhaaGreatDoorW.PrintWords Go.Proofs.YtaknchlegjcdhaaGreatDoorW.PrintLast Go.Proofs.YtaknchlegjcdhaaGreatDoorW.PrintMore
attribute [local go_sem] max2_int min2_int max_two min_two max_three min_three max_four min_four
def garboardref01_Over.f (l0 l1:List Int):Option (List Int × List Int):=if can l0∧can l1∧l1≠[] then some (numOf (nm l0 / nm l1),numOf (nm l0 % nm l1)) else none
end Go.Proofs.YtaknchlegjcdhaaGreatDoor.Pr
set_option linter.unusedVariables false
set_option linter.unusedSimpArgs false
namespace Go.Proofs.YtaknchlegjcdhaaGreatDoor.Pr
open Go.RowKit Go.Proofs.YtaknchlegjcdhaaGreatDoorW.PrintWords Go.Proofs.YtaknchlegjcdhaaGreatDoorW.PrintLast Go.Proofs.YtaknchlegjcdhaaGreatDoorW.PrintMore Go.Proofs.YtaknchlegjcdhaaGreatDoor.NatTh
theorem divide_eq (a b:Nat) (ha:(numOf a).length≤549755813888) (hb:(numOf b).length≤549755813888) (h:b≠0):natural_num_divide.f (numOf a) (numOf b) = some (numOf (a / b),numOf (a % b))∧garboardref01_Over.f (numOf a) (numOf b) = some (numOf (a / b),numOf (a % b)):=by
 have hc:can (numOf a)∧can (numOf b)∧numOf b≠[]:=⟨can_numOf ha,can_numOf hb,fun e=>h (numOf_nil.1 e)⟩
 unfold natural_num_divide.f garboardref01_Over.f
 rw [if_pos hc,nm_numOf,nm_numOf]
 exact ⟨rfl,rfl⟩
theorem mod_len (a b:Nat):(numOf (a % b)).length≤(numOf a).length:=len_mono (Nat.mod_le _ _)
end Go.Proofs.YtaknchlegjcdhaaGreatDoor.Pr
namespace Go.Proofs.YtaknchlegjcdhaaGreatDoor.Pa
set_option linter.unusedVariables false
set_option linter.unusedSimpArgs false
open Go.RowKit Go.Lib Go.Proofs.YtaknchlegjcdhaaGreatDoorW.PrintWords Go.Proofs.YtaknchlegjcdhaaGreatDoorW.PrintLast Go.Proofs.YtaknchlegjcdhaaGreatDoorW.PrintMore Go.Proofs.YtaknchlegjcdhaaGreatDoor.NatTh Go.Proofs.YtaknchlegjcdhaaGreatDoor.Pr
theorem gives_V {r:List Int} {w w':World} {e:Ending} {base:Nat} {ok:Nat→Prop} (h:∃ v0_:Value,e = .returned (v0_)∧Kd.V (Kd.int .u32) 95 w' base ok v0_ r∧Below w.heap.size w w'):Gives r w e w':=by
 obtain ⟨v,he,hV,hb⟩:=h
 obtain ⟨A,c,rfl,hc,hF⟩:=hV
 exact ⟨A,c,he,Kd.F_now hF,hc,hb⟩
theorem gives_R {r:List Int} {w w':World} {e:Ending} {base:Nat} {ok:Nat→Prop} (h:∃ v0_:Value,e = .returned (v0_)∧Kd.R (Kd.int .u32) 95 w' base ok v0_ r∧Below w.heap.size w w'):Gives r w e w':=by
 obtain ⟨v,he,hR,hb⟩:=h
 exact gives_V (base:=base) (ok:=ok) ⟨v,he,Kd.R_V hR,hb⟩
theorem op_len {n a b:Nat} (ha:(numOf a).length≤n) (hb:(numOf b).length≤n):(numOf (a + b)).length≤n + 1:=len_add a b n ha hb
def natural_num_plus.f (l0 l1:List Int):Option (ByteArray × Int):=if can l0∧can l1 then some (num (nm l0 + nm l1),0) else none
def natural_num_minus.f (l0 l1:List Int):Option (ByteArray × Int):=if can l0∧can l1∧nm l1≤nm l0 then some (num (nm l0 - nm l1),0) else none
def natural_num_times.f (l0 l1:List Int):Option (ByteArray × Int):=if can l0∧can l1 then some (num (nm l0 * nm l1),0) else none
theorem natural_num_plus.calls (A0:Option Addr) (c0:Nat) (l0:List Int) (A1:Option Addr) (c1:Nat) (l1:List Int) (r1:ByteArray) (r2:Int) (w:World) (hr0:Kd.C (Kd.int .u32) w A0 l0.length l0) (hc0:l0.length≤c0) (hr1:Kd.C (Kd.int .u32) w A1 l1.length l1) (hc1:l1.length≤c1) (hL:Pa.LaidW w) (h:natural_num_plus.f l0 l1 = some (r1,r2)) :
  Calls Tryz.prog 67 #[.func (.func 109) #[.slice A0 l0.length c0] #[],.slice A1 l1.length c1] w fun e w'=>e = .returned (.tuple #[.string r1,.int .i64 r2])∧Below w.heap.size w w':=by
 unfold natural_num_plus.f at h
 split at h
 ·rename_i hc
  obtain ⟨⟨h0,hl0⟩,⟨h1,hl1⟩⟩:=hc
  simp only [Option.some.injEq,Prod.mk.injEq] at h
  obtain ⟨rfl,rfl⟩:=h
  have hn:=op_len (n:=549755813888) (a:=nm l0) (b:=nm l1) (by rw [← h0];exact hl0) (by rw [← h1];exact hl1)
  have e:=plus_eq (nm l0) (nm l1) (by unfold Ok;rw [← h0];omega) (by unfold Ok;rw [← h1];omega)
  rw [← h0,← h1] at e
  exact apply38 _ _ _ _ w hL ((Pr.natural_num_plus.calls A0 c0 l0 A1 c1 l1 _ w hr0 hc0 hr1 hc1 e).mono (fun e w'=>gives_R)) (text_eq _ (by unfold Ok;omega))
 ·cases h
theorem natural_num_minus.calls (A0:Option Addr) (c0:Nat) (l0:List Int) (A1:Option Addr) (c1:Nat) (l1:List Int) (r1:ByteArray) (r2:Int) (w:World) (hr0:Kd.C (Kd.int .u32) w A0 l0.length l0) (hc0:l0.length≤c0) (hr1:Kd.C (Kd.int .u32) w A1 l1.length l1) (hc1:l1.length≤c1) (hL:Pa.LaidW w) (h:natural_num_minus.f l0 l1 = some (r1,r2)) :
  Calls Tryz.prog 67 #[.func (.func 110) #[.slice A0 l0.length c0] #[],.slice A1 l1.length c1] w fun e w'=>e = .returned (.tuple #[.string r1,.int .i64 r2])∧Below w.heap.size w w':=by
 unfold natural_num_minus.f at h
 split at h
 ·rename_i hc
  obtain ⟨⟨h0,hl0⟩,⟨h1,hl1⟩,hle⟩:=hc
  simp only [Option.some.injEq,Prod.mk.injEq] at h
  obtain ⟨rfl,rfl⟩:=h
  have hn:=len_mono (a:=nm l0 - nm l1) (b:=nm l0) (by omega)
  rw [← h0] at hn
  obtain ⟨k,e⟩:=(minus_ev (nm l0) (nm l1) hle (by unfold Ok;rw [← h0];omega) (by unfold Ok;rw [← h1];omega)).rounds
  rw [← h0,← h1] at e
  exact apply41 _ _ _ _ w hL ((Pr.natural_num_minus.calls k A0 c0 l0 A1 c1 l1 _ w hr0 hc0 hr1 hc1 e).mono (fun e w'=>gives_V)) (text_eq _ (by unfold Ok;omega))
 ·cases h
theorem natural_num_times.calls (A0:Option Addr) (c0:Nat) (l0:List Int) (A1:Option Addr) (c1:Nat) (l1:List Int) (r1:ByteArray) (r2:Int) (w:World) (hr0:Kd.C (Kd.int .u32) w A0 l0.length l0) (hc0:l0.length≤c0) (hr1:Kd.C (Kd.int .u32) w A1 l1.length l1) (hc1:l1.length≤c1) (hL:Pa.LaidW w) (h:natural_num_times.f l0 l1 = some (r1,r2)) :
  Calls Tryz.prog 67 #[.func (.func 96) #[.slice A0 l0.length c0] #[],.slice A1 l1.length c1] w fun e w'=>e = .returned (.tuple #[.string r1,.int .i64 r2])∧Below w.heap.size w w':=by
 unfold natural_num_times.f at h
 split at h
 ·rename_i hc
  obtain ⟨⟨h0,hl0⟩,⟨h1,hl1⟩⟩:=hc
  simp only [Option.some.injEq,Prod.mk.injEq] at h
  obtain ⟨rfl,rfl⟩:=h
  have hn:=len_mul (nm l0) (nm l1)
  rw [← h0,← h1] at hn
  obtain ⟨k,e⟩:=(times_ev (nm l0) (nm l1) (by unfold Ok;rw [← h0];omega) (by unfold Ok;rw [← h1];omega)).1.rounds
  rw [← h0,← h1] at e
  exact apply43 _ _ _ _ w hL ((Pr.natural_num_times.calls k A0 c0 l0 A1 c1 l1 _ w hr0 hc0 hr1 hc1 e).mono (fun e w'=>gives_V)) (text_eq _ (by unfold Ok;omega))
 ·cases h
end Go.Proofs.YtaknchlegjcdhaaGreatDoor.Pa
namespace Go.Proofs.YtaknchlegjcdhaaGreatDoor.Pa
open Go.RowKit Go.Proofs.YtaknchlegjcdhaaGreatDoorW.PrintWords Go.Proofs.YtaknchlegjcdhaaGreatDoorW.PrintLast Go.Proofs.YtaknchlegjcdhaaGreatDoorW.PrintMore
attribute [local go_sem] max2_int min2_int max_two min_two max_three min_three max_four min_four
set_option maxHeartbeats 8000000
set_option maxRecDepth 100000
set_option linter.unusedVariables false
set_option linter.unusedSimpArgs false
def natural_Add.f (k:Nat) (a0:ByteArray) (a1:ByteArray):Option (ByteArray × Int):=(natural_both.f k a0 a1).bind fun bt193=>(if bt193.2.2 = 0 then ((natural_num_plus.f bt193.1 bt193.2.1).bind fun bt200=>(some (bt200.1,bt200.2))) else (some ((⟨#[]⟩:ByteArray),bt193.2.2)))
theorem natural_Add.calls (k:Nat) (a0:ByteArray) (a1:ByteArray) (r1:ByteArray) (r2:Int) (w:World) (hL:LaidW w) (h:natural_Add.f k a0 a1 = some (r1,r2)) :
  Calls Tryz.prog 84 #[.string a0,.string a1] w fun e w'=>e = .returned (.tuple #[.string r1,.int .i64 r2])∧Below w.heap.size w w':=by
 have HB:=Aside0.mk (Below.refl w.heap.size w)
 have HLW:=Aside0.mk hL
 clear hL
 have H:((natural_both.f k a0 a1).bind fun bt193=>(if bt193.2.2 = 0 then ((natural_num_plus.f bt193.1 bt193.2.1).bind fun bt200=>(some (bt200.1,bt200.2))) else (some ((⟨#[]⟩:ByteArray),bt193.2.2)))) = some (r1,r2):=h
 clear h
 obtain ⟨⟨t193,t194,t195⟩,A3,H⟩:=bn_ H
 dsimp only at H
 by_cases c4:t195 = 0
 ·rw [if_pos c4] at H
  have c4b0:(t195 == 0) = true:=beq_iff_eq.mpr c4
  have c4b1:(t195 != 0) = false:=bne_eq_false_iff_eq.mpr c4
  clear c4
  obtain ⟨⟨t200,t201⟩,A5,H⟩:=bn_ H
  dsimp only at H
  simp only [Option.some.injEq,Prod.mk.injEq] at H
  obtain ⟨rfl,rfl⟩:=H
  go_enter Tryz.func84,Tryz.ntmps84
  go_wp2_with (first|((with_reducible refine gate_callee (f:=65) rfl ?_);refine gm_ (some 12) Tryz.func65 #[.string a0,.string a1] ?_;(with_reducible refine (natural_both.calls k a0 a1 t193 t194 t195 _ A3.out).mono ?_);rintro e w6 ⟨v196,v198,rfl,ho0,ho1,hb⟩;refine ⟨_,rfl,?_⟩;have HO197:=Aside0.mk (Kd.R_lower ho0 (below_size bx_));have HO199:=Aside0.mk (Kd.R_lower ho1 (below_size bx_));replace HB:=bs_ hb;(try clear hb);(try clear ho0);(try clear ho1);obtain ⟨Ao7,co7,eo7⟩:=Kd.R_slice HO197.out;subst eo7;obtain ⟨Ao8,co8,eo8⟩:=Kd.R_slice HO199.out;subst eo8)|((with_reducible refine gate_callee (f:=67) rfl ?_);refine gm_ (some 22) Tryz.func67 #[.func (.func 109) #[.slice Ao7 t193.length co7] #[],.slice Ao8 t194.length co8] ?_;(with_reducible refine (natural_num_plus.calls _ _ t193 _ _ t194 t200 t201 _ ?side1 ?side2 ?side3 ?side4 ?side5 A5.out).mono ?_);(case side1=>exact cx_ ((Kd.R_reads' HO197.out).2.2));(case side2=>exact (Kd.R_reads' HO197.out).2.1);(case side3=>exact cx_ ((Kd.R_reads' HO199.out).2.2));(case side4=>exact (Kd.R_reads' HO199.out).2.1);(case side5=>exact HLW.out.below bx_);rintro e w9 ⟨rfl,hb⟩;refine ⟨_,rfl,?_⟩;replace HO197:=rb_ HO197 hb;replace HO199:=rb_ HO199 hb;replace HB:=bs_ hb;(try clear hb)))
  go_ret2
  exact ⟨rf_,bx_⟩
 ·rw [if_neg c4] at H
  have c4b0:(t195 == 0) = false:=beq_eq_false_iff_ne.mpr c4
  have c4b1:(t195 != 0) = true:=bne_iff_ne.mpr c4
  simp only [Option.some.injEq,Prod.mk.injEq] at H
  obtain ⟨rfl,rfl⟩:=H
  go_enter Tryz.func84,Tryz.ntmps84
  go_wp2_with (first|((with_reducible refine gate_callee (f:=65) rfl ?_);refine gm_ (some 12) Tryz.func65 #[.string a0,.string a1] ?_;(with_reducible refine (natural_both.calls k a0 a1 t193 t194 t195 _ A3.out).mono ?_);rintro e w10 ⟨v196,v198,rfl,ho0,ho1,hb⟩;refine ⟨_,rfl,?_⟩;have HO197:=Aside0.mk (Kd.R_lower ho0 (below_size bx_));have HO199:=Aside0.mk (Kd.R_lower ho1 (below_size bx_));replace HB:=bs_ hb;(try clear hb);(try clear ho0);(try clear ho1)))
  go_ret2
  exact ⟨rf_,bx_⟩
end Go.Proofs.YtaknchlegjcdhaaGreatDoor.Pa
namespace Go.Proofs.YtaknchlegjcdhaaGreatDoor.Pa
open Go.RowKit Go.Proofs.YtaknchlegjcdhaaGreatDoorW.PrintWords Go.Proofs.YtaknchlegjcdhaaGreatDoorW.PrintLast Go.Proofs.YtaknchlegjcdhaaGreatDoorW.PrintMore
attribute [local go_sem] max2_int min2_int max_two min_two max_three min_three max_four min_four
set_option maxHeartbeats 8000000
set_option maxRecDepth 100000
set_option linter.unusedVariables false
set_option linter.unusedSimpArgs false
def natural_Sub.f (k:Nat) (a0:ByteArray) (a1:ByteArray):Option (ByteArray × Int):=(natural_both.f k a0 a1).bind fun bt202=>(if bt202.2.2 = 0 then ((natural_num_compare.f k bt202.1 bt202.2.1).bind fun t209=>(if t209 < 0 then (some ((⟨#[]⟩:ByteArray),2)) else ((natural_num_minus.f bt202.1 bt202.2.1).bind fun bt210=>(some (bt210.1,bt210.2))))) else (some ((⟨#[]⟩:ByteArray),bt202.2.2)))
theorem natural_Sub.calls (k:Nat) (a0:ByteArray) (a1:ByteArray) (r1:ByteArray) (r2:Int) (w:World) (hL:LaidW w) (h:natural_Sub.f k a0 a1 = some (r1,r2)) :
  Calls Tryz.prog 85 #[.string a0,.string a1] w fun e w'=>e = .returned (.tuple #[.string r1,.int .i64 r2])∧Below w.heap.size w w':=by
 have HB:=Aside0.mk (Below.refl w.heap.size w)
 have HLW:=Aside0.mk hL
 clear hL
 have H:((natural_both.f k a0 a1).bind fun bt202=>(if bt202.2.2 = 0 then ((natural_num_compare.f k bt202.1 bt202.2.1).bind fun t209=>(if t209 < 0 then (some ((⟨#[]⟩:ByteArray),2)) else ((natural_num_minus.f bt202.1 bt202.2.1).bind fun bt210=>(some (bt210.1,bt210.2))))) else (some ((⟨#[]⟩:ByteArray),bt202.2.2)))) = some (r1,r2):=h
 clear h
 obtain ⟨⟨t202,t203,t204⟩,A3,H⟩:=bn_ H
 dsimp only at H
 by_cases c4:t204 = 0
 ·rw [if_pos c4] at H
  have c4b0:(t204 == 0) = true:=beq_iff_eq.mpr c4
  have c4b1:(t204 != 0) = false:=bne_eq_false_iff_eq.mpr c4
  clear c4
  obtain ⟨t209,A5,H⟩:=bn_ H
  by_cases c6:t209 < 0
  ·rw [if_pos c6] at H
   have c6b0:decide (t209 < 0) = true:=decide_eq_true c6
   clear c6
   simp only [Option.some.injEq,Prod.mk.injEq] at H
   obtain ⟨rfl,rfl⟩:=H
   go_enter Tryz.func85,Tryz.ntmps85
   go_wp2_with (first|((with_reducible refine gate_callee (f:=65) rfl ?_);refine gm_ (some 12) Tryz.func65 #[.string a0,.string a1] ?_;(with_reducible refine (natural_both.calls k a0 a1 t202 t203 t204 _ A3.out).mono ?_);rintro e w7 ⟨v205,v207,rfl,ho0,ho1,hb⟩;refine ⟨_,rfl,?_⟩;have HO206:=Aside0.mk (Kd.R_lower ho0 (below_size bx_));have HO208:=Aside0.mk (Kd.R_lower ho1 (below_size bx_));replace HB:=bs_ hb;(try clear hb);(try clear ho0);(try clear ho1);obtain ⟨Ao8,co8,eo8⟩:=Kd.R_slice HO206.out;subst eo8;obtain ⟨Ao9,co9,eo9⟩:=Kd.R_slice HO208.out;subst eo9)|((with_reducible refine gate_callee (f:=66) rfl ?_);refine gm_ (some 23) Tryz.func66 #[.slice Ao8 t202.length co8,.slice Ao9 t203.length co9] ?_;(with_reducible refine (natural_num_compare.calls k _ _ t202 _ _ t203 t209 _ ?side1 ?side2 ?side3 ?side4 A5.out).mono ?_);(case side1=>exact cx_ ((Kd.R_reads' HO206.out).2.2));(case side2=>exact (Kd.R_reads' HO206.out).2.1);(case side3=>exact cx_ ((Kd.R_reads' HO208.out).2.2));(case side4=>exact (Kd.R_reads' HO208.out).2.1);rintro e w' ⟨rfl,⟨nd,rfl⟩⟩;refine ⟨_,rfl,?_⟩))
   go_ret2
   exact ⟨rf_,bx_⟩
  ·rw [if_neg c6] at H
   have c6b0:decide (t209 < 0) = false:=decide_eq_false c6
   clear c6
   obtain ⟨⟨t210,t211⟩,A10,H⟩:=bn_ H
   dsimp only at H
   simp only [Option.some.injEq,Prod.mk.injEq] at H
   obtain ⟨rfl,rfl⟩:=H
   go_enter Tryz.func85,Tryz.ntmps85
   go_wp2_with (first|((with_reducible refine gate_callee (f:=65) rfl ?_);refine gm_ (some 12) Tryz.func65 #[.string a0,.string a1] ?_;(with_reducible refine (natural_both.calls k a0 a1 t202 t203 t204 _ A3.out).mono ?_);rintro e w11 ⟨v205,v207,rfl,ho0,ho1,hb⟩;refine ⟨_,rfl,?_⟩;have HO206:=Aside0.mk (Kd.R_lower ho0 (below_size bx_));have HO208:=Aside0.mk (Kd.R_lower ho1 (below_size bx_));replace HB:=bs_ hb;(try clear hb);(try clear ho0);(try clear ho1);obtain ⟨Ao12,co12,eo12⟩:=Kd.R_slice HO206.out;subst eo12;obtain ⟨Ao13,co13,eo13⟩:=Kd.R_slice HO208.out;subst eo13)|((with_reducible refine gate_callee (f:=66) rfl ?_);refine gm_ (some 23) Tryz.func66 #[.slice Ao12 t202.length co12,.slice Ao13 t203.length co13] ?_;(with_reducible refine (natural_num_compare.calls k _ _ t202 _ _ t203 t209 _ ?side1 ?side2 ?side3 ?side4 A5.out).mono ?_);(case side1=>exact cx_ ((Kd.R_reads' HO206.out).2.2));(case side2=>exact (Kd.R_reads' HO206.out).2.1);(case side3=>exact cx_ ((Kd.R_reads' HO208.out).2.2));(case side4=>exact (Kd.R_reads' HO208.out).2.1);rintro e w' ⟨rfl,⟨nd,rfl⟩⟩;refine ⟨_,rfl,?_⟩)|((with_reducible refine gate_callee (f:=67) rfl ?_);refine gm_ (some 28) Tryz.func67 #[.func (.func 110) #[.slice Ao12 t202.length co12] #[],.slice Ao13 t203.length co13] ?_;(with_reducible refine (natural_num_minus.calls _ _ t202 _ _ t203 t210 t211 _ ?side1 ?side2 ?side3 ?side4 ?side5 A10.out).mono ?_);(case side1=>exact cx_ ((Kd.R_reads' HO206.out).2.2));(case side2=>exact (Kd.R_reads' HO206.out).2.1);(case side3=>exact cx_ ((Kd.R_reads' HO208.out).2.2));(case side4=>exact (Kd.R_reads' HO208.out).2.1);(case side5=>exact HLW.out.below bx_);rintro e w14 ⟨rfl,hb⟩;refine ⟨_,rfl,?_⟩;replace HO206:=rb_ HO206 hb;replace HO208:=rb_ HO208 hb;replace HB:=bs_ hb;(try clear hb)))
   go_ret2
   exact ⟨rf_,bx_⟩
 ·rw [if_neg c4] at H
  have c4b0:(t204 == 0) = false:=beq_eq_false_iff_ne.mpr c4
  have c4b1:(t204 != 0) = true:=bne_iff_ne.mpr c4
  simp only [Option.some.injEq,Prod.mk.injEq] at H
  obtain ⟨rfl,rfl⟩:=H
  go_enter Tryz.func85,Tryz.ntmps85
  go_wp2_with (first|((with_reducible refine gate_callee (f:=65) rfl ?_);refine gm_ (some 12) Tryz.func65 #[.string a0,.string a1] ?_;(with_reducible refine (natural_both.calls k a0 a1 t202 t203 t204 _ A3.out).mono ?_);rintro e w15 ⟨v205,v207,rfl,ho0,ho1,hb⟩;refine ⟨_,rfl,?_⟩;have HO206:=Aside0.mk (Kd.R_lower ho0 (below_size bx_));have HO208:=Aside0.mk (Kd.R_lower ho1 (below_size bx_));replace HB:=bs_ hb;(try clear hb);(try clear ho0);(try clear ho1)))
  go_ret2
  exact ⟨rf_,bx_⟩
end Go.Proofs.YtaknchlegjcdhaaGreatDoor.Pa
namespace Go.Proofs.YtaknchlegjcdhaaGreatDoor.Pa
open Go.RowKit Go.Proofs.YtaknchlegjcdhaaGreatDoorW.PrintWords Go.Proofs.YtaknchlegjcdhaaGreatDoorW.PrintLast Go.Proofs.YtaknchlegjcdhaaGreatDoorW.PrintMore
attribute [local go_sem] max2_int min2_int max_two min_two max_three min_three max_four min_four
set_option maxHeartbeats 8000000
set_option maxRecDepth 100000
set_option linter.unusedVariables false
set_option linter.unusedSimpArgs false
def natural_Mul.f (k:Nat) (a0:ByteArray) (a1:ByteArray):Option (ByteArray × Int):=(natural_both.f k a0 a1).bind fun bt212=>(if bt212.2.2 = 0 then ((natural_num_times.f bt212.1 bt212.2.1).bind fun bt219=>(some (bt219.1,bt219.2))) else (some ((⟨#[]⟩:ByteArray),bt212.2.2)))
theorem natural_Mul.calls (k:Nat) (a0:ByteArray) (a1:ByteArray) (r1:ByteArray) (r2:Int) (w:World) (hL:LaidW w) (h:natural_Mul.f k a0 a1 = some (r1,r2)) :
  Calls Tryz.prog 82 #[.string a0,.string a1] w fun e w'=>e = .returned (.tuple #[.string r1,.int .i64 r2])∧Below w.heap.size w w':=by
 have HB:=Aside0.mk (Below.refl w.heap.size w)
 have HLW:=Aside0.mk hL
 clear hL
 have H:((natural_both.f k a0 a1).bind fun bt212=>(if bt212.2.2 = 0 then ((natural_num_times.f bt212.1 bt212.2.1).bind fun bt219=>(some (bt219.1,bt219.2))) else (some ((⟨#[]⟩:ByteArray),bt212.2.2)))) = some (r1,r2):=h
 clear h
 obtain ⟨⟨t212,t213,t214⟩,A3,H⟩:=bn_ H
 dsimp only at H
 by_cases c4:t214 = 0
 ·rw [if_pos c4] at H
  have c4b0:(t214 == 0) = true:=beq_iff_eq.mpr c4
  have c4b1:(t214 != 0) = false:=bne_eq_false_iff_eq.mpr c4
  clear c4
  obtain ⟨⟨t219,t220⟩,A5,H⟩:=bn_ H
  dsimp only at H
  simp only [Option.some.injEq,Prod.mk.injEq] at H
  obtain ⟨rfl,rfl⟩:=H
  go_enter Tryz.func82,Tryz.ntmps82
  go_wp2_with (first|((with_reducible refine gate_callee (f:=65) rfl ?_);refine gm_ (some 12) Tryz.func65 #[.string a0,.string a1] ?_;(with_reducible refine (natural_both.calls k a0 a1 t212 t213 t214 _ A3.out).mono ?_);rintro e w6 ⟨v215,v217,rfl,ho0,ho1,hb⟩;refine ⟨_,rfl,?_⟩;have HO216:=Aside0.mk (Kd.R_lower ho0 (below_size bx_));have HO218:=Aside0.mk (Kd.R_lower ho1 (below_size bx_));replace HB:=bs_ hb;(try clear hb);(try clear ho0);(try clear ho1);obtain ⟨Ao7,co7,eo7⟩:=Kd.R_slice HO216.out;subst eo7;obtain ⟨Ao8,co8,eo8⟩:=Kd.R_slice HO218.out;subst eo8)|((with_reducible refine gate_callee (f:=67) rfl ?_);refine gm_ (some 22) Tryz.func67 #[.func (.func 96) #[.slice Ao7 t212.length co7] #[],.slice Ao8 t213.length co8] ?_;(with_reducible refine (natural_num_times.calls _ _ t212 _ _ t213 t219 t220 _ ?side1 ?side2 ?side3 ?side4 ?side5 A5.out).mono ?_);(case side1=>exact cx_ ((Kd.R_reads' HO216.out).2.2));(case side2=>exact (Kd.R_reads' HO216.out).2.1);(case side3=>exact cx_ ((Kd.R_reads' HO218.out).2.2));(case side4=>exact (Kd.R_reads' HO218.out).2.1);(case side5=>exact HLW.out.below bx_);rintro e w9 ⟨rfl,hb⟩;refine ⟨_,rfl,?_⟩;replace HO216:=rb_ HO216 hb;replace HO218:=rb_ HO218 hb;replace HB:=bs_ hb;(try clear hb)))
  go_ret2
  exact ⟨rf_,bx_⟩
 ·rw [if_neg c4] at H
  have c4b0:(t214 == 0) = false:=beq_eq_false_iff_ne.mpr c4
  have c4b1:(t214 != 0) = true:=bne_iff_ne.mpr c4
  simp only [Option.some.injEq,Prod.mk.injEq] at H
  obtain ⟨rfl,rfl⟩:=H
  go_enter Tryz.func82,Tryz.ntmps82
  go_wp2_with (first|((with_reducible refine gate_callee (f:=65) rfl ?_);refine gm_ (some 12) Tryz.func65 #[.string a0,.string a1] ?_;(with_reducible refine (natural_both.calls k a0 a1 t212 t213 t214 _ A3.out).mono ?_);rintro e w10 ⟨v215,v217,rfl,ho0,ho1,hb⟩;refine ⟨_,rfl,?_⟩;have HO216:=Aside0.mk (Kd.R_lower ho0 (below_size bx_));have HO218:=Aside0.mk (Kd.R_lower ho1 (below_size bx_));replace HB:=bs_ hb;(try clear hb);(try clear ho0);(try clear ho1)))
  go_ret2
  exact ⟨rf_,bx_⟩
end Go.Proofs.YtaknchlegjcdhaaGreatDoor.Pa
set_option linter.unusedVariables false
set_option linter.unusedSimpArgs false
namespace Go.Proofs.YtaknchlegjcdhaaGreatDoor.Pr
open Go.RowKit Go.Proofs.YtaknchlegjcdhaaGreatDoorW.PrintWords Go.Proofs.YtaknchlegjcdhaaGreatDoorW.PrintLast Go.Proofs.YtaknchlegjcdhaaGreatDoorW.PrintMore Go.Proofs.YtaknchlegjcdhaaGreatDoor.NatTh
def addV (a b:ByteArray):ByteArray × Int:=if (nv a && nv b) = true then (num (nat a + nat b),0) else (⟨#[]⟩,1)
def subV (a b:ByteArray):ByteArray × Int:=if (nv a && nv b) = true then (if nat a < nat b then (⟨#[]⟩,2) else (num (nat a - nat b),0)) else (⟨#[]⟩,1)
def mulV (a b:ByteArray):ByteArray × Int:=if (nv a && nv b) = true then (num (nat a * nat b),0) else (⟨#[]⟩,1)
def natural_Add.f (a b:ByteArray):Option (ByteArray × Int):=if Sh a∧Sh b then some (addV a b) else none
def natural_Sub.f (a b:ByteArray):Option (ByteArray × Int):=if Sh a∧Sh b then some (subV a b) else none
def natural_Mul.f (a b:ByteArray):Option (ByteArray × Int):=if Sh a∧Sh b then some (mulV a b) else none
theorem cann {a:ByteArray} (h:nv a = true) (ha:Sh a):can (numOf (nat a)):=can_numOf (by have:=nat_can a h ha;omega)
theorem add_ev (a b:ByteArray) (ha:Sh a) (hb:Sh b):Ev (fun k=>Pa.natural_Add.f k a b) (addV a b):=by
 refine Ev.congr (fun k=>rfl) (Ev.bind (both_ev a b ha hb) ?_)
 unfold addV bothV
 by_cases h:(nv a && nv b) = true
 ·obtain ⟨h1,h2⟩:=Bool.and_eq_true_iff.1 h
  rw [if_pos h,if_pos h]
  refine ⟨0,fun k _=>?_⟩
  dsimp only
  rw [if_pos rfl]
  unfold Pa.natural_num_plus.f
  rw [if_pos ⟨cann h1 ha,cann h2 hb⟩,nm_numOf,nm_numOf]
  rfl
 ·rw [if_neg h,if_neg h]
  exact ⟨0,fun k _=>rfl⟩
theorem mul_ev (a b:ByteArray) (ha:Sh a) (hb:Sh b):Ev (fun k=>Pa.natural_Mul.f k a b) (mulV a b):=by
 refine Ev.congr (fun k=>rfl) (Ev.bind (both_ev a b ha hb) ?_)
 unfold mulV bothV
 by_cases h:(nv a && nv b) = true
 ·obtain ⟨h1,h2⟩:=Bool.and_eq_true_iff.1 h
  rw [if_pos h,if_pos h]
  refine ⟨0,fun k _=>?_⟩
  dsimp only
  rw [if_pos rfl]
  unfold Pa.natural_num_times.f
  rw [if_pos ⟨cann h1 ha,cann h2 hb⟩,nm_numOf,nm_numOf]
  rfl
 ·rw [if_neg h,if_neg h]
  exact ⟨0,fun k _=>rfl⟩
theorem ord_neg (a b:Nat):ord a b < 0 ↔ a < b:=by
 unfold ord
 by_cases h:a < b
 ·rw [if_pos h]
  simp [h]
 ·rw [if_neg h]
  by_cases h2:b < a
  ·rw [if_pos h2]
   omega
  ·rw [if_neg h2]
   omega
theorem sub_ev (a b:ByteArray) (ha:Sh a) (hb:Sh b):Ev (fun k=>Pa.natural_Sub.f k a b) (subV a b):=by
 refine Ev.congr (fun k=>rfl) (Ev.bind (both_ev a b ha hb) ?_)
 unfold subV bothV
 by_cases h:(nv a && nv b) = true
 ·obtain ⟨h1,h2⟩:=Bool.and_eq_true_iff.1 h
  rw [if_pos h,if_pos h]
  have la:=nat_can a h1 ha
  have lb:=nat_can b h2 hb
  have hc:=(compare_ev (nat a) (nat b) (by unfold Ok;omega) (by unfold Ok;omega)).1
  refine Ev.congr (f:=fun k=>(natural_num_compare.f k (numOf (nat a)) (numOf (nat b))).bind fun t209=>(if t209 < 0 then (some ((⟨#[]⟩:ByteArray),2)) else ((Pa.natural_num_minus.f (numOf (nat a)) (numOf (nat b))).bind fun bt210=>(some (bt210.1,bt210.2))))) (fun k=>if_pos rfl) (Ev.bind hc ?_)
  refine ⟨0,fun k _=>?_⟩
  by_cases hlt:nat a < nat b
  ·rw [if_pos hlt]
   dsimp only
   rw [if_pos ((ord_neg _ _).2 hlt)]
  ·rw [if_neg hlt]
   dsimp only
   rw [if_neg (fun h=>hlt ((ord_neg _ _).1 h))]
   unfold Pa.natural_num_minus.f
   rw [nm_numOf,nm_numOf,if_pos ⟨cann h1 ha,cann h2 hb,by omega⟩]
   rfl
 ·rw [if_neg h,if_neg h]
  exact ⟨0,fun k _=>rfl⟩
theorem natural_Add.calls (a0 a1:ByteArray) (r1:ByteArray) (r2:Int) (w:World) (hL:LaidW w) (h:natural_Add.f a0 a1 = some (r1,r2)) :
  Calls Tryz.prog 84 #[.string a0,.string a1] w fun e w'=>e = .returned (.tuple #[.string r1,.int .i64 r2])∧Below w.heap.size w w':=by
 unfold natural_Add.f at h
 split at h
 ·rename_i hc
  obtain ⟨k,e⟩:=(add_ev a0 a1 hc.1 hc.2).rounds
  exact Pa.natural_Add.calls k a0 a1 r1 r2 w hL (e.trans h)
 ·cases h
theorem natural_Sub.calls (a0 a1:ByteArray) (r1:ByteArray) (r2:Int) (w:World) (hL:LaidW w) (h:natural_Sub.f a0 a1 = some (r1,r2)) :
  Calls Tryz.prog 85 #[.string a0,.string a1] w fun e w'=>e = .returned (.tuple #[.string r1,.int .i64 r2])∧Below w.heap.size w w':=by
 unfold natural_Sub.f at h
 split at h
 ·rename_i hc
  obtain ⟨k,e⟩:=(sub_ev a0 a1 hc.1 hc.2).rounds
  exact Pa.natural_Sub.calls k a0 a1 r1 r2 w hL (e.trans h)
 ·cases h
theorem natural_Mul.calls (a0 a1:ByteArray) (r1:ByteArray) (r2:Int) (w:World) (hL:LaidW w) (h:natural_Mul.f a0 a1 = some (r1,r2)) :
  Calls Tryz.prog 82 #[.string a0,.string a1] w fun e w'=>e = .returned (.tuple #[.string r1,.int .i64 r2])∧Below w.heap.size w w':=by
 unfold natural_Mul.f at h
 split at h
 ·rename_i hc
  obtain ⟨k,e⟩:=(mul_ev a0 a1 hc.1 hc.2).rounds
  exact Pa.natural_Mul.calls k a0 a1 r1 r2 w hL (e.trans h)
 ·cases h
end Go.Proofs.YtaknchlegjcdhaaGreatDoor.Pr
namespace Go.Proofs.YtaknchlegjcdhaaGreatDoor.Pr
open Go.RowKit Go.Proofs.YtaknchlegjcdhaaGreatDoorW.PrintWords Go.Proofs.YtaknchlegjcdhaaGreatDoorW.PrintLast Go.Proofs.YtaknchlegjcdhaaGreatDoorW.PrintMore
attribute [local go_sem] max2_int min2_int max_two min_two max_three min_three max_four min_four
set_option maxHeartbeats 8000000
set_option maxRecDepth 100000
set_option linter.unusedVariables false
set_option linter.unusedSimpArgs false
def natural_Compare.f (k:Nat) (a0:ByteArray) (a1:ByteArray):Option (Int × Int):=(natural_both.f k a0 a1).bind fun bt231=>(if bt231.2.2 = 0 then ((natural_num_compare.f k bt231.1 bt231.2.1).bind fun t238=>(some (t238,0))) else (some (0,bt231.2.2)))
theorem natural_Compare.calls (k:Nat) (a0:ByteArray) (a1:ByteArray) (r1:Int) (r2:Int) (w:World) (h:natural_Compare.f k a0 a1 = some (r1,r2)) :
  Calls Tryz.prog 36 #[.string a0,.string a1] w fun e w'=>e = .returned (.tuple #[.int .i64 r1,.int .i64 r2])∧Below w.heap.size w w':=by
 have HB:=Aside0.mk (Below.refl w.heap.size w)
 have H:((natural_both.f k a0 a1).bind fun bt231=>(if bt231.2.2 = 0 then ((natural_num_compare.f k bt231.1 bt231.2.1).bind fun t238=>(some (t238,0))) else (some (0,bt231.2.2)))) = some (r1,r2):=h
 clear h
 obtain ⟨⟨t231,t232,t233⟩,A3,H⟩:=bn_ H
 dsimp only at H
 by_cases c4:t233 = 0
 ·rw [if_pos c4] at H
  have c4b0:(t233 == 0) = true:=beq_iff_eq.mpr c4
  have c4b1:(t233 != 0) = false:=bne_eq_false_iff_eq.mpr c4
  clear c4
  obtain ⟨t238,A5,H⟩:=bn_ H
  simp only [Option.some.injEq,Prod.mk.injEq] at H
  obtain ⟨rfl,rfl⟩:=H
  go_enter Tryz.func36,Tryz.ntmps36
  go_wp2_with (first|((with_reducible refine gate_callee (f:=65) rfl ?_);refine gm_ (some 12) Tryz.func65 #[.string a0,.string a1] ?_;(with_reducible refine (natural_both.calls k a0 a1 t231 t232 t233 _ A3.out).mono ?_);rintro e w6 ⟨v234,v236,rfl,ho0,ho1,hb⟩;refine ⟨_,rfl,?_⟩;have HO235:=Aside0.mk (Kd.R_lower ho0 (below_size bx_));have HO237:=Aside0.mk (Kd.R_lower ho1 (below_size bx_));replace HB:=bs_ hb;(try clear hb);(try clear ho0);(try clear ho1);obtain ⟨Ao7,co7,eo7⟩:=Kd.R_slice HO235.out;subst eo7;obtain ⟨Ao8,co8,eo8⟩:=Kd.R_slice HO237.out;subst eo8)|((with_reducible refine gate_callee (f:=66) rfl ?_);refine gm_ (some 21) Tryz.func66 #[.slice Ao7 t231.length co7,.slice Ao8 t232.length co8] ?_;(with_reducible refine (natural_num_compare.calls k _ _ t231 _ _ t232 t238 _ ?side1 ?side2 ?side3 ?side4 A5.out).mono ?_);(case side1=>exact cx_ ((Kd.R_reads' HO235.out).2.2));(case side2=>exact (Kd.R_reads' HO235.out).2.1);(case side3=>exact cx_ ((Kd.R_reads' HO237.out).2.2));(case side4=>exact (Kd.R_reads' HO237.out).2.1);rintro e w' ⟨rfl,⟨nd,rfl⟩⟩;refine ⟨_,rfl,?_⟩))
  go_ret2
  exact ⟨rf_,bx_⟩
 ·rw [if_neg c4] at H
  have c4b0:(t233 == 0) = false:=beq_eq_false_iff_ne.mpr c4
  have c4b1:(t233 != 0) = true:=bne_iff_ne.mpr c4
  simp only [Option.some.injEq,Prod.mk.injEq] at H
  obtain ⟨rfl,rfl⟩:=H
  go_enter Tryz.func36,Tryz.ntmps36
  go_wp2_with (first|((with_reducible refine gate_callee (f:=65) rfl ?_);refine gm_ (some 12) Tryz.func65 #[.string a0,.string a1] ?_;(with_reducible refine (natural_both.calls k a0 a1 t231 t232 t233 _ A3.out).mono ?_);rintro e w9 ⟨v234,v236,rfl,ho0,ho1,hb⟩;refine ⟨_,rfl,?_⟩;have HO235:=Aside0.mk (Kd.R_lower ho0 (below_size bx_));have HO237:=Aside0.mk (Kd.R_lower ho1 (below_size bx_));replace HB:=bs_ hb;(try clear hb);(try clear ho0);(try clear ho1)))
  go_ret2
  exact ⟨rf_,bx_⟩
end Go.Proofs.YtaknchlegjcdhaaGreatDoor.Pr
namespace Go.Proofs.YtaknchlegjcdhaaGreatDoor.Pr
open Go.RowKit Go.Proofs.YtaknchlegjcdhaaGreatDoorW.PrintWords Go.Proofs.YtaknchlegjcdhaaGreatDoorW.PrintLast Go.Proofs.YtaknchlegjcdhaaGreatDoorW.PrintMore
attribute [local go_sem] max2_int min2_int max_two min_two max_three min_three max_four min_four
set_option maxHeartbeats 8000000
set_option maxRecDepth 100000
set_option linter.unusedVariables false
set_option linter.unusedSimpArgs false
def natural_DivMod.f (k:Nat) (a0:ByteArray) (a1:ByteArray):Option (ByteArray × ByteArray × Int):=(natural_both.f k a0 a1).bind fun bt334=>(if bt334.2.2 = 0 then (if (bt334.2.1.length:Int) = 0 then (some ((⟨#[]⟩:ByteArray),(⟨#[]⟩:ByteArray),16)) else ((natural_num_divide.f bt334.1 bt334.2.1).bind fun bt341=>((natural_num_text.f bt341.1).bind fun t347=>((natural_num_text.f bt341.2).bind fun t348=>(some (t347,t348,0)))))) else (some ((⟨#[]⟩:ByteArray),(⟨#[]⟩:ByteArray),bt334.2.2)))
theorem natural_DivMod.mono:∀ a0 a1 k,LeO (natural_DivMod.f k a0 a1) (natural_DivMod.f (k + 1) a0 a1):=by intro a0 a1 k;unfold natural_DivMod.f;have:=@natural_both.mono;exact mn_
theorem natural_DivMod.calls (k:Nat) (a0:ByteArray) (a1:ByteArray) (r1:ByteArray) (r2:ByteArray) (r3:Int) (w:World) (hL:LaidW w) (h:natural_DivMod.f k a0 a1 = some (r1,r2,r3)) :
  Calls Tryz.prog 38 #[.string a0,.string a1] w fun e w'=>e = .returned (.tuple #[.string r1,.string r2,.int .i64 r3])∧Below w.heap.size w w':=by
 have HB:=Aside0.mk (Below.refl w.heap.size w)
 have HLW:=Aside0.mk hL
 clear hL
 have H:((natural_both.f k a0 a1).bind fun bt334=>(if bt334.2.2 = 0 then (if (bt334.2.1.length:Int) = 0 then (some ((⟨#[]⟩:ByteArray),(⟨#[]⟩:ByteArray),16)) else ((natural_num_divide.f bt334.1 bt334.2.1).bind fun bt341=>((natural_num_text.f bt341.1).bind fun t347=>((natural_num_text.f bt341.2).bind fun t348=>(some (t347,t348,0)))))) else (some ((⟨#[]⟩:ByteArray),(⟨#[]⟩:ByteArray),bt334.2.2)))) = some (r1,r2,r3):=h
 clear h
 obtain ⟨⟨t334,t335,t336⟩,A3,H⟩:=bn_ H
 dsimp only at H
 by_cases c4:t336 = 0
 ·rw [if_pos c4] at H
  have c4b0:(t336 == 0) = true:=beq_iff_eq.mpr c4
  have c4b1:(t336 != 0) = false:=bne_eq_false_iff_eq.mpr c4
  clear c4
  by_cases c5:(t335.length:Int) = 0
  ·rw [if_pos c5] at H
   have c5b0:((t335.length:Int) == 0) = true:=beq_iff_eq.mpr c5
   have c5b1:((t335.length:Int) != 0) = false:=bne_eq_false_iff_eq.mpr c5
   clear c5
   simp only [Option.some.injEq,Prod.mk.injEq] at H
   obtain ⟨rfl,rfl,rfl⟩:=H
   go_enter Tryz.func38,Tryz.ntmps38
   go_wp2_with (first|((with_reducible refine gate_callee (f:=65) rfl ?_);refine gm_ (some 15) Tryz.func65 #[.string a0,.string a1] ?_;(with_reducible refine (natural_both.calls k a0 a1 t334 t335 t336 _ A3.out).mono ?_);rintro e w6 ⟨v337,v339,rfl,ho0,ho1,hb⟩;refine ⟨_,rfl,?_⟩;have HO338:=Aside0.mk (Kd.R_lower ho0 (below_size bx_));have HO340:=Aside0.mk (Kd.R_lower ho1 (below_size bx_));replace HB:=bs_ hb;(try clear hb);(try clear ho0);(try clear ho1);obtain ⟨Ao7,co7,eo7⟩:=Kd.R_slice HO340.out;subst eo7))
   go_ret3
   exact ⟨rf_,bx_⟩
  ·rw [if_neg c5] at H
   have c5b0:((t335.length:Int) == 0) = false:=beq_eq_false_iff_ne.mpr c5
   have c5b1:((t335.length:Int) != 0) = true:=bne_iff_ne.mpr c5
   have c5b2:¬ (t335 = []):=fun h_=>c5 (by rw [h_];rfl)
   obtain ⟨⟨t341,t344⟩,A8,H⟩:=bn_ H
   dsimp only at H
   obtain ⟨t347,A9,H⟩:=bn_ H
   obtain ⟨t348,A10,H⟩:=bn_ H
   simp only [Option.some.injEq,Prod.mk.injEq] at H
   obtain ⟨rfl,rfl,rfl⟩:=H
   go_enter Tryz.func38,Tryz.ntmps38
   go_wp2_with (first|((with_reducible refine gate_callee (f:=65) rfl ?_);refine gm_ (some 15) Tryz.func65 #[.string a0,.string a1] ?_;(with_reducible refine (natural_both.calls k a0 a1 t334 t335 t336 _ A3.out).mono ?_);rintro e w11 ⟨v337,v339,rfl,ho0,ho1,hb⟩;refine ⟨_,rfl,?_⟩;have HO338:=Aside0.mk (Kd.R_lower ho0 (below_size bx_));have HO340:=Aside0.mk (Kd.R_lower ho1 (below_size bx_));replace HB:=bs_ hb;(try clear hb);(try clear ho0);(try clear ho1);obtain ⟨Ao12,co12,eo12⟩:=Kd.R_slice HO340.out;subst eo12;obtain ⟨Ao13,co13,eo13⟩:=Kd.R_slice HO338.out;subst eo13)|((with_reducible refine gate_callee (f:=69) rfl ?_);refine gm_ (some 30) Tryz.func69 #[.slice Ao13 t334.length co13,.slice Ao12 t335.length co12] ?_;(with_reducible refine (natural_num_divide.calls (fun k_=>some k_ = (.slice Ao13 t334.length co13:Value).ownBlock) _ _ t334 _ _ t335 t341 t344 _ ?side1 ?side2 ?side3 A8.out).mono ?_);(case side1=>exact Kd.R_V (Kd.R_tight rfl (HO338.out)));(case side2=>exact cx_ ((Kd.R_reads' HO340.out).2.2));(case side3=>exact (Kd.R_reads' HO340.out).2.1);rintro e w14 ⟨v342,v345,rfl,ho0,ho1,hb⟩;refine ⟨_,rfl,?_⟩;have HO343:=Aside0.mk (Kd.R_lower (Kd.R_new' (Kd.R_new' (Kd.R_mono (ok':=fun k_=>True) ho0 (fun _ hk_=>trivial)) (Kd.R_lt (by (with_reducible repeat (first|apply Kd.R_alloc|apply Kd.R_drewN|apply Kd.R_drew));exact HO338.out))) (Kd.R_lt (by (with_reducible repeat (first|apply Kd.R_alloc|apply Kd.R_drewN|apply Kd.R_drew));exact HO340.out))) (below_size bx_));have HO346:=Aside0.mk (Kd.V_lower (Kd.V_mono (ok':=fun k_=>some k_≠(v342:Value).ownBlock∧some k_≠(.slice Ao12 t335.length co12:Value).ownBlock) ho1 (fun k_ hk_=>⟨hk_.2,Or.elim hk_.1 (fun hs_=>((HO338.out).1 k_ hs_.symm)) (fun hn_=>(Kd.fresh' (Kd.R_lt (by (with_reducible repeat (first|apply Kd.R_alloc|apply Kd.R_drewN|apply Kd.R_drew));exact HO340.out)) k_ hn_))⟩)) (below_size bx_));replace HO338:=Aside0.mk (Kd.R_elder' (by (with_reducible repeat (first|apply Kd.R_alloc|apply Kd.R_drewN|apply Kd.R_drew));exact HO338.out) (Kd.R_base ho0) hb);replace HO340:=Aside0.mk (Kd.R_elder' (by (with_reducible repeat (first|apply Kd.R_alloc|apply Kd.R_drewN|apply Kd.R_drew));exact HO340.out) (Kd.R_base ho0) hb);replace HB:=bs_ hb;(try clear hb);(try clear ho0);(try clear ho1);obtain ⟨Ao15,co15,eo15⟩:=Kd.R_slice HO343.out;subst eo15)|((with_reducible refine gate_callee (f:=70) rfl ?_);refine gm_ (some 34) Tryz.func70 #[.slice Ao15 t341.length co15] ?_;(with_reducible refine (natural_num_text.calls _ _ t341 t347 _ ?side1 ?side2 ?side3 A9.out).mono ?_);(case side1=>exact cx_ ((Kd.R_reads' HO343.out).2.2));(case side2=>exact (Kd.R_reads' HO343.out).2.1);(case side3=>exact HLW.out.below bx_);rintro e w16 ⟨rfl,hb⟩;refine ⟨_,rfl,?_⟩;replace HO338:=rb_ HO338 hb;replace HO340:=rb_ HO340 hb;replace HO343:=rb_ HO343 hb;replace HO346:=vb_ HO346 hb;replace HB:=bs_ hb;(try clear hb);obtain ⟨Ao17,co17,eo17⟩:=Kd.V_slice HO346.out;subst eo17)|((with_reducible refine gate_callee (f:=70) rfl ?_);refine gm_ (some 36) Tryz.func70 #[.slice Ao17 t344.length co17] ?_;(with_reducible refine (natural_num_text.calls _ _ t344 t348 _ ?side1 ?side2 ?side3 A10.out).mono ?_);(case side1=>exact cx_ ((Kd.V_reads' HO346.out).2.2));(case side2=>exact (Kd.V_reads' HO346.out).2.1);(case side3=>exact HLW.out.below bx_);rintro e w18 ⟨rfl,hb⟩;refine ⟨_,rfl,?_⟩;replace HO338:=rb_ HO338 hb;replace HO340:=rb_ HO340 hb;replace HO343:=rb_ HO343 hb;replace HO346:=vb_ HO346 hb;replace HB:=bs_ hb;(try clear hb)))
   go_ret3
   exact ⟨rf_,bx_⟩
 ·rw [if_neg c4] at H
  have c4b0:(t336 == 0) = false:=beq_eq_false_iff_ne.mpr c4
  have c4b1:(t336 != 0) = true:=bne_iff_ne.mpr c4
  simp only [Option.some.injEq,Prod.mk.injEq] at H
  obtain ⟨rfl,rfl,rfl⟩:=H
  go_enter Tryz.func38,Tryz.ntmps38
  go_wp2_with (first|((with_reducible refine gate_callee (f:=65) rfl ?_);refine gm_ (some 15) Tryz.func65 #[.string a0,.string a1] ?_;(with_reducible refine (natural_both.calls k a0 a1 t334 t335 t336 _ A3.out).mono ?_);rintro e w19 ⟨v337,v339,rfl,ho0,ho1,hb⟩;refine ⟨_,rfl,?_⟩;have HO338:=Aside0.mk (Kd.R_lower ho0 (below_size bx_));have HO340:=Aside0.mk (Kd.R_lower ho1 (below_size bx_));replace HB:=bs_ hb;(try clear hb);(try clear ho0);(try clear ho1)))
  go_ret3
  exact ⟨rf_,bx_⟩
end Go.Proofs.YtaknchlegjcdhaaGreatDoor.Pr
set_option linter.unusedVariables false
set_option linter.unusedSimpArgs false
namespace Go.Proofs.YtaknchlegjcdhaaGreatDoor.Pr
open Go.RowKit Go.Lib Go.Proofs.YtaknchlegjcdhaaGreatDoorW.PrintWords Go.Proofs.YtaknchlegjcdhaaGreatDoorW.PrintLast Go.Proofs.YtaknchlegjcdhaaGreatDoorW.PrintMore Go.Proofs.YtaknchlegjcdhaaGreatDoor.NatTh
def cmpSV (a b:ByteArray):Int × Int:=if (nv a && nv b) = true then (ord (nat a) (nat b),0) else (0,1)
def divV (a b:ByteArray):ByteArray × ByteArray × Int:=if (nv a && nv b) = true then (if nat b = 0 then (⟨#[]⟩,⟨#[]⟩,16) else (num (nat a / nat b),num (nat a % nat b),0)) else (⟨#[]⟩,⟨#[]⟩,1)
theorem Compare_ev (a b:ByteArray) (ha:Sh a) (hb:Sh b):Ev (fun k=>natural_Compare.f k a b) (cmpSV a b):=by
 refine Ev.congr (fun k=>rfl) (Ev.bind (both_ev a b ha hb) ?_)
 unfold cmpSV bothV
 by_cases h:(nv a && nv b) = true
 ·obtain ⟨h1,h2⟩:=Bool.and_eq_true_iff.1 h
  rw [if_pos h,if_pos h]
  have la:=nat_can a h1 ha
  have lb:=nat_can b h2 hb
  have hc:=(compare_ev (nat a) (nat b) (by unfold Ok;omega) (by unfold Ok;omega)).1
  exact Ev.congr (f:=fun k=>(natural_num_compare.f k (numOf (nat a)) (numOf (nat b))).bind fun t=>some (t,0)) (fun k=>if_pos rfl) (Ev.bind hc (Ev.now _))
 ·rw [if_neg h,if_neg h]
  exact ⟨0,fun k _=>rfl⟩
theorem DivMod_ev (a b:ByteArray) (ha:Sh a) (hb:Sh b):Ev (fun k=>natural_DivMod.f k a b) (divV a b):=by
 refine Ev.congr (fun k=>rfl) (Ev.bind (both_ev a b ha hb) ?_)
 unfold divV bothV
 by_cases h:(nv a && nv b) = true
 ·obtain ⟨h1,h2⟩:=Bool.and_eq_true_iff.1 h
  rw [if_pos h,if_pos h]
  have la:=nat_can a h1 ha
  have lb:=nat_can b h2 hb
  refine ⟨0,fun k _=>?_⟩
  dsimp only
  rw [if_pos rfl]
  by_cases h0:nat b = 0
  ·rw [if_pos h0,h0,numOf_zero,if_pos (by simp)]
  ·have hp:=len_pos (Nat.pos_of_ne_zero h0)
   have lq:=len_mono (Nat.div_le_self (nat a) (nat b))
   have lr:=mod_len (nat a) (nat b)
   rw [if_neg h0,if_neg (by omega),(divide_eq (nat a) (nat b) (by omega) (by omega) h0).1,Option.bind_some,text_eq _ (by unfold Ok;omega),Option.bind_some,text_eq _ (by unfold Ok;omega)]
   rfl
 ·rw [if_neg h,if_neg h]
  exact ⟨0,fun k _=>rfl⟩
theorem ord_ge (a b:Nat):ord a b ≥ 0 ↔ b≤a:=by
 have:=ord_neg a b
 omega
end Go.Proofs.YtaknchlegjcdhaaGreatDoor.Pr
set_option linter.unusedVariables false
set_option linter.unusedSimpArgs false
namespace Go.Proofs.YtaknchlegjcdhaaGreatDoor.Pr
open Go.RowKit Go.Lib Go.Proofs.YtaknchlegjcdhaaGreatDoorW.PrintWords Go.Proofs.YtaknchlegjcdhaaGreatDoorW.PrintLast Go.Proofs.YtaknchlegjcdhaaGreatDoorW.PrintMore Go.Proofs.YtaknchlegjcdhaaGreatDoor.NatTh
theorem bs_num (n:Nat):bs (num n) = decDigits n:=rfl
theorem num_list (n:Nat) (L:List UInt8) (h:nv ⟨L.toArray⟩ = true) (hn:pv L = n):(num n).toList = L:=by
 have h1:Nml L:=(nv_iff ⟨L.toArray⟩).1 h
 rw [toL,bs_num,← hn,dec_pv L h1]
theorem nv_num (n:Nat):nv (num n) = true:=(nv_iff _).2 (nml_dec n)
theorem nat_num (n:Nat):nat (num n) = n:=pv_dec n
theorem bs_inj {a b:ByteArray} (h:bs a = bs b):a = b:=by
 cases a
 cases b
 exact congrArg _ (Array.toList_inj.1 h)
theorem num_nat {a:ByteArray} (h:nv a = true):num (nat a) = a:=bs_inj (dec_pv (bs a) ((nv_iff a).1 h))
theorem num_inj {m n:Nat} (h:num m = num n):m = n:=by rw [← nat_num m,h,nat_num]
theorem num_toList_inj {m n:Nat}:(num m).toList = (num n).toList ↔ m = n:=⟨fun h=>num_inj (bs_inj (by rw [← toL,← toL,h])),fun h=>by rw [h]⟩
theorem num_beq (m n:Nat):((num m).toList == (num n).toList) = decide (m = n):=by
 by_cases h:m = n
 ·subst h
  simp
 ·rw [decide_eq_false h]
  exact beq_eq_false_iff_ne.2 (fun e=>h (num_toList_inj.1 e))
theorem num0:(num 0).toList = ([48]:List UInt8):=num_list _ _ (by decide +kernel) (by decide +kernel)
theorem num1:(num 1).toList = ([49]:List UInt8):=num_list _ _ (by decide +kernel) (by decide +kernel)
theorem str1:(⟨#[49]⟩:ByteArray) = num 1:=bs_inj (by rw [← toL (num 1),num1])
theorem str0:(⟨#[48]⟩:ByteArray) = num 0:=bs_inj (by rw [← toL (num 0),num0])
theorem beq0 (n:Nat):((num n).toList == ([48]:List UInt8)) = decide (n = 0):=by rw [← num0,num_beq]
def Sz (e n:Nat):Prop:=n < 10 ^ e
theorem sz_size {e n:Nat} (he:1≤e) (h:Sz e n):(num n).size≤e:=by
 have h1:(num n).size = nDigits n:=by
  rw [← bs_length,show bs (num n) = decDigits n from rfl,decDigits_length]
 rw [h1]
 exact nDigits_le e n he h
theorem Sz.mono {e f n:Nat} (h:Sz e n) (hf:e≤f):Sz f n:=Nat.lt_of_lt_of_le h (Nat.pow_le_pow_right (by omega) hf)
theorem Sz.le {e m n:Nat} (h:Sz e n) (hm:m≤n):Sz e m:=Nat.lt_of_le_of_lt hm h
theorem Sz.add {e m n:Nat} (hm:Sz e m) (hn:Sz e n):Sz (e + 1) (m + n):=by
 unfold Sz at *
 have:10 ^ (e + 1) = 10 ^ e * 10:=Nat.pow_succ 10 e
 omega
theorem Sz.mul {e f m n:Nat} (hm:Sz e m) (hn:Sz f n):Sz (e + f) (m * n):=by
 unfold Sz at *
 rw [Nat.pow_add]
 exact Nat.mul_lt_mul'' hm hn
theorem Sz.sh {e n:Nat} (h:Sz e n) (he:1≤e) (h2:e≤100000):Sh (num n):=Nat.le_trans (sz_size he h) (by omega)
theorem both_num (m n:Nat):(nv (num m) && nv (num n)) = true:=by rw [nv_num,nv_num];rfl
theorem add_f {m n:Nat} (hm:Sh (num m)) (hn:Sh (num n)):natural_Add.f (num m) (num n) = some (num (m + n),0):=by
 unfold natural_Add.f addV
 rw [if_pos ⟨hm,hn⟩,if_pos (both_num m n),nat_num,nat_num]
theorem sub_f {m n:Nat} (hm:Sh (num m)) (hn:Sh (num n)):natural_Sub.f (num m) (num n) = some (if m < n then (⟨#[]⟩,2) else (num (m - n),0)):=by
 unfold natural_Sub.f subV
 rw [if_pos ⟨hm,hn⟩,if_pos (both_num m n),nat_num,nat_num]
theorem mul_f {m n:Nat} (hm:Sh (num m)) (hn:Sh (num n)):natural_Mul.f (num m) (num n) = some (num (m * n),0):=by
 unfold natural_Mul.f mulV
 rw [if_pos ⟨hm,hn⟩,if_pos (both_num m n),nat_num,nat_num]
theorem cmp_e {m n:Nat} (hm:Sh (num m)) (hn:Sh (num n)):Ev (fun k=>natural_Compare.f k (num m) (num n)) (ord m n,0):=by
 have h:=Compare_ev (num m) (num n) hm hn
 unfold cmpSV at h
 rw [if_pos (both_num m n),nat_num,nat_num] at h
 exact h
theorem div_e {m n:Nat} (hm:Sh (num m)) (hn:Sh (num n)):Ev (fun k=>natural_DivMod.f k (num m) (num n)) (if n = 0 then (⟨#[]⟩,⟨#[]⟩,16) else (num (m / n),num (m % n),0)):=by
 have h:=DivMod_ev (num m) (num n) hm hn
 unfold divV at h
 rw [if_pos (both_num m n),nat_num,nat_num] at h
 exact h
theorem ord_lt {m n:Nat} (h:m < n):ord m n = -1:=if_pos h
end Go.Proofs.YtaknchlegjcdhaaGreatDoor.Pr
namespace Go.Proofs.YtaknchlegjcdhaaGreatDoor.Pr
open Go.RowKit Go.Proofs.YtaknchlegjcdhaaGreatDoorW.PrintWords Go.Proofs.YtaknchlegjcdhaaGreatDoorW.PrintLast Go.Proofs.YtaknchlegjcdhaaGreatDoorW.PrintMore
attribute [local go_sem] max2_int min2_int max_two min_two max_three min_three max_four min_four
set_option maxHeartbeats 8000000
set_option maxRecDepth 100000
set_option linter.unusedVariables false
set_option linter.unusedSimpArgs false
def integer_sum.f (a0_0:Bool) (a0_1:ByteArray) (a1_0:Bool) (a1_1:ByteArray):Option (Bool × ByteArray):=(natural_Add.f a0_1 a1_1).bind fun bt217=>((integer_with.f a0_0 bt217.1).bind fun bt219=>(some (bt219.1,bt219.2)))
theorem integer_sum.calls (a0_0:Bool) (a0_1:ByteArray) (a1_0:Bool) (a1_1:ByteArray) (r1:Bool) (r2:ByteArray) (w:World) (hL:LaidW w) (h:integer_sum.f a0_0 a0_1 a1_0 a1_1 = some (r1,r2)) :
  Calls Tryz.prog 76 #[.agg #[.bool a0_0,.string a0_1],.agg #[.bool a1_0,.string a1_1]] w fun e w'=>e = .returned (.agg #[.bool r1,.string r2])∧Below w.heap.size w w':=by
 have hu43:=Tryz.underlying43
 have HB:=Aside0.mk (Below.refl w.heap.size w)
 have HLW:=Aside0.mk hL
 clear hL
 have H:((natural_Add.f a0_1 a1_1).bind fun bt217=>((integer_with.f a0_0 bt217.1).bind fun bt219=>(some (bt219.1,bt219.2)))) = some (r1,r2):=h
 clear h
 obtain ⟨⟨t217,t218⟩,A3,H⟩:=bn_ H
 dsimp only at H
 obtain ⟨⟨t219,t220⟩,A4,H⟩:=bn_ H
 dsimp only at H
 simp only [Option.some.injEq,Prod.mk.injEq] at H
 obtain ⟨rfl,rfl⟩:=H
 go_enter Tryz.func76,Tryz.ntmps76
 go_wp2_with (first|((with_reducible refine gate_dst (N:=2) rfl ?_);refine bv_ #[.bool a0_0,.string a0_1] 43 ?_;clear HB;intro gb214 hg w5 BK214 GE214 hb HB;clear hb hg)|((with_reducible refine gate_dst (N:=3) rfl ?_);refine bv_ #[.bool a1_0,.string a1_1] 43 ?_;clear HB;intro gb215 hg w6 BK215 GE215 hb HB;have x_:=ol_ BK214 hg hb;clear BK214;obtain ⟨BK214,NB214_215,NB215_214⟩:=x_;clear hb hg)|((with_reducible refine gate_dst (N:=4) rfl ?_);refine bv_ #[.bool false,.string (⟨#[]⟩:ByteArray)] 43 ?_;clear HB;intro gb216 hg w7 BK216 GE216 hb HB;have x_:=ol_ BK214 hg hb;clear BK214;obtain ⟨BK214,NB214_216,NB216_214⟩:=x_;have x_:=ol_ BK215 hg hb;clear BK215;obtain ⟨BK215,NB215_216,NB216_215⟩:=x_;clear hb hg;have hnb8:=NB214_215.out;have hnc8:=NB215_214.out;have hnb9:=NB214_216.out;have hnc9:=NB216_214.out;obtain ⟨hcz10_0,hcz10_1,hfz10_0,hfz10_1⟩:=c2_ BK214;have hnb11:=NB215_216.out;have hnc11:=NB216_215.out;obtain ⟨hcz12_0,hcz12_1,hfz12_0,hfz12_1⟩:=c2_ BK215)|((with_reducible refine gate_callee (f:=84) rfl ?_);refine gl_ (some 12) Tryz.func84 #[.string a0_1,.string a1_1] (natural_Add.calls a0_1 a1_1 t217 t218 _ (HLW.out.below bx_) A3.out) ?_;clear HB;intro w13 hb HB;replace BK214:=bb_ BK214 hb;replace BK215:=bb_ BK215 hb;replace BK216:=bb_ BK216 hb;clear hb;obtain ⟨hcz14_0,hcz14_1,hfz14_0,hfz14_1⟩:=c2_ BK214)|((with_reducible refine gate_callee (f:=62) rfl ?_);refine gl_ (some 18) Tryz.func62 #[.bool a0_0,.string t217] (integer_with.calls a0_0 t217 t219 t220 _ A4.out) ?_;clear HB;intro w15 hb HB;replace BK214:=bb_ BK214 hb;replace BK215:=bb_ BK215 hb;replace BK216:=bb_ BK216 hb;clear hb;obtain ⟨hcz16_0,hcz16_1,hfz16_0,hfz16_1⟩:=c2_ BK216))
 refine bodyPost_ret (results_cell_row rfl _ _ gb216 43 #[.bool t219,.string t220] (0,0) _ rfl bk_ Tryz.underlying43 rfl kr_) rfl ?_
 exact ⟨rf_,bx_⟩
end Go.Proofs.YtaknchlegjcdhaaGreatDoor.Pr
namespace Go.Proofs.YtaknchlegjcdhaaGreatDoor.Pr
open Go.RowKit Go.Proofs.YtaknchlegjcdhaaGreatDoorW.PrintWords Go.Proofs.YtaknchlegjcdhaaGreatDoorW.PrintLast Go.Proofs.YtaknchlegjcdhaaGreatDoorW.PrintMore
attribute [local go_sem] max2_int min2_int max_two min_two max_three min_three max_four min_four
set_option maxHeartbeats 8000000
set_option maxRecDepth 100000
set_option linter.unusedVariables false
set_option linter.unusedSimpArgs false
def integer_difference.f (k:Nat) (a0_0:Bool) (a0_1:ByteArray) (a1_0:Bool) (a1_1:ByteArray):Option (Bool × ByteArray):=(natural_Compare.f k a0_1 a1_1).bind fun bt242=>(if bt242.1 < 0 then ((natural_Sub.f a1_1 a0_1).bind fun bt244=>((integer_with.f a1_0 bt244.1).bind fun bt246=>(some (bt246.1,bt246.2)))) else ((natural_Sub.f a0_1 a1_1).bind fun bt248=>((integer_with.f a0_0 bt248.1).bind fun bt250=>(some (bt250.1,bt250.2)))))
theorem integer_difference.calls (k:Nat) (a0_0:Bool) (a0_1:ByteArray) (a1_0:Bool) (a1_1:ByteArray) (r1:Bool) (r2:ByteArray) (w:World) (hL:LaidW w) (h:integer_difference.f k a0_0 a0_1 a1_0 a1_1 = some (r1,r2)) :
  Calls Tryz.prog 77 #[.agg #[.bool a0_0,.string a0_1],.agg #[.bool a1_0,.string a1_1]] w fun e w'=>e = .returned (.agg #[.bool r1,.string r2])∧Below w.heap.size w w':=by
 have hu43:=Tryz.underlying43
 have HB:=Aside0.mk (Below.refl w.heap.size w)
 have HLW:=Aside0.mk hL
 clear hL
 have H:((natural_Compare.f k a0_1 a1_1).bind fun bt242=>(if bt242.1 < 0 then ((natural_Sub.f a1_1 a0_1).bind fun bt244=>((integer_with.f a1_0 bt244.1).bind fun bt246=>(some (bt246.1,bt246.2)))) else ((natural_Sub.f a0_1 a1_1).bind fun bt248=>((integer_with.f a0_0 bt248.1).bind fun bt250=>(some (bt250.1,bt250.2)))))) = some (r1,r2):=h
 clear h
 obtain ⟨⟨t242,t243⟩,A3,H⟩:=bn_ H
 dsimp only at H
 by_cases c4:t242 < 0
 ·rw [if_pos c4] at H
  have c4b0:decide (t242 < 0) = true:=decide_eq_true c4
  clear c4
  obtain ⟨⟨t244,t245⟩,A5,H⟩:=bn_ H
  dsimp only at H
  obtain ⟨⟨t246,t247⟩,A6,H⟩:=bn_ H
  dsimp only at H
  simp only [Option.some.injEq,Prod.mk.injEq] at H
  obtain ⟨rfl,rfl⟩:=H
  go_enter Tryz.func77,Tryz.ntmps77
  go_wp2_with (first|((with_reducible refine gate_dst (N:=2) rfl ?_);refine bv_ #[.bool a0_0,.string a0_1] 43 ?_;clear HB;intro gb239 hg w7 BK239 GE239 hb HB;clear hb hg)|((with_reducible refine gate_dst (N:=3) rfl ?_);refine bv_ #[.bool a1_0,.string a1_1] 43 ?_;clear HB;intro gb240 hg w8 BK240 GE240 hb HB;have x_:=ol_ BK239 hg hb;clear BK239;obtain ⟨BK239,NB239_240,NB240_239⟩:=x_;clear hb hg)|((with_reducible refine gate_dst (N:=4) rfl ?_);refine bv_ #[.bool false,.string (⟨#[]⟩:ByteArray)] 43 ?_;clear HB;intro gb241 hg w9 BK241 GE241 hb HB;have x_:=ol_ BK239 hg hb;clear BK239;obtain ⟨BK239,NB239_241,NB241_239⟩:=x_;have x_:=ol_ BK240 hg hb;clear BK240;obtain ⟨BK240,NB240_241,NB241_240⟩:=x_;clear hb hg;have hnb10:=NB239_240.out;have hnc10:=NB240_239.out;have hnb11:=NB239_241.out;have hnc11:=NB241_239.out;obtain ⟨hcz12_0,hcz12_1,hfz12_0,hfz12_1⟩:=c2_ BK239;have hnb13:=NB240_241.out;have hnc13:=NB241_240.out;obtain ⟨hcz14_0,hcz14_1,hfz14_0,hfz14_1⟩:=c2_ BK240)|((with_reducible refine gate_callee (f:=36) rfl ?_);refine gl_ (some 14) Tryz.func36 #[.string a0_1,.string a1_1] (natural_Compare.calls k a0_1 a1_1 t242 t243 _ A3.out) ?_;clear HB;intro w15 hb HB;replace BK239:=bb_ BK239 hb;replace BK240:=bb_ BK240 hb;replace BK241:=bb_ BK241 hb;clear hb;obtain ⟨hcz16_0,hcz16_1,hfz16_0,hfz16_1⟩:=c2_ BK240;obtain ⟨hcz17_0,hcz17_1,hfz17_0,hfz17_1⟩:=c2_ BK239)|((with_reducible refine gate_callee (f:=85) rfl ?_);refine gm_ (some 26) Tryz.func85 #[.string a1_1,.string a0_1] ?_;(with_reducible refine (natural_Sub.calls a1_1 a0_1 t244 t245 _ (HLW.out.below bx_) A5.out).mono ?_);rintro e w18 ⟨rfl,hb⟩;refine ⟨_,rfl,?_⟩;replace BK239:=Aside0.mk (blk_below (g:=gb239) (o:=.cells #[.bool a1_0,.string a1_1] 43 (0,0)) bk_ hb);replace BK240:=Aside0.mk (blk_below (g:=gb240) (o:=.cells #[.bool a0_0,.string a0_1] 43 (0,0)) bk_ hb);replace BK241:=Aside0.mk (blk_below (g:=gb241) (o:=.cells #[.bool false,.string (⟨#[]⟩:ByteArray)] 43 (0,0)) bk_ hb);replace HB:=bs_ hb;(try clear hb);obtain ⟨hcz19_0,hcz19_1,hfz19_0,hfz19_1⟩:=c2_ BK239)|((with_reducible refine gate_callee (f:=62) rfl ?_);refine gl_ (some 32) Tryz.func62 #[.bool a1_0,.string t244] (integer_with.calls a1_0 t244 t246 t247 _ A6.out) ?_;clear HB;intro w20 hb HB;replace BK239:=bb_ BK239 hb;replace BK240:=bb_ BK240 hb;replace BK241:=bb_ BK241 hb;clear hb;obtain ⟨hcz21_0,hcz21_1,hfz21_0,hfz21_1⟩:=c2_ BK241))
  refine bodyPost_ret (results_cell_row rfl _ _ gb241 43 #[.bool t246,.string t247] (0,0) _ rfl bk_ Tryz.underlying43 rfl kr_) rfl ?_
  exact ⟨rf_,bx_⟩
 ·rw [if_neg c4] at H
  have c4b0:decide (t242 < 0) = false:=decide_eq_false c4
  clear c4
  obtain ⟨⟨t248,t249⟩,A22,H⟩:=bn_ H
  dsimp only at H
  obtain ⟨⟨t250,t251⟩,A23,H⟩:=bn_ H
  dsimp only at H
  simp only [Option.some.injEq,Prod.mk.injEq] at H
  obtain ⟨rfl,rfl⟩:=H
  go_enter Tryz.func77,Tryz.ntmps77
  go_wp2_with (first|((with_reducible refine gate_dst (N:=2) rfl ?_);refine bv_ #[.bool a0_0,.string a0_1] 43 ?_;clear HB;intro gb239 hg w24 BK239 GE239 hb HB;clear hb hg)|((with_reducible refine gate_dst (N:=3) rfl ?_);refine bv_ #[.bool a1_0,.string a1_1] 43 ?_;clear HB;intro gb240 hg w25 BK240 GE240 hb HB;have x_:=ol_ BK239 hg hb;clear BK239;obtain ⟨BK239,NB239_240,NB240_239⟩:=x_;clear hb hg)|((with_reducible refine gate_dst (N:=4) rfl ?_);refine bv_ #[.bool false,.string (⟨#[]⟩:ByteArray)] 43 ?_;clear HB;intro gb241 hg w26 BK241 GE241 hb HB;have x_:=ol_ BK239 hg hb;clear BK239;obtain ⟨BK239,NB239_241,NB241_239⟩:=x_;have x_:=ol_ BK240 hg hb;clear BK240;obtain ⟨BK240,NB240_241,NB241_240⟩:=x_;clear hb hg;have hnb27:=NB239_240.out;have hnc27:=NB240_239.out;have hnb28:=NB239_241.out;have hnc28:=NB241_239.out;obtain ⟨hcz29_0,hcz29_1,hfz29_0,hfz29_1⟩:=c2_ BK239;have hnb30:=NB240_241.out;have hnc30:=NB241_240.out;obtain ⟨hcz31_0,hcz31_1,hfz31_0,hfz31_1⟩:=c2_ BK240)|((with_reducible refine gate_callee (f:=36) rfl ?_);refine gl_ (some 14) Tryz.func36 #[.string a0_1,.string a1_1] (natural_Compare.calls k a0_1 a1_1 t242 t243 _ A3.out) ?_;clear HB;intro w32 hb HB;replace BK239:=bb_ BK239 hb;replace BK240:=bb_ BK240 hb;replace BK241:=bb_ BK241 hb;clear hb;obtain ⟨hcz33_0,hcz33_1,hfz33_0,hfz33_1⟩:=c2_ BK239;obtain ⟨hcz34_0,hcz34_1,hfz34_0,hfz34_1⟩:=c2_ BK240)|((with_reducible refine gate_callee (f:=85) rfl ?_);refine gl_ (some 26) Tryz.func85 #[.string a0_1,.string a1_1] (natural_Sub.calls a0_1 a1_1 t248 t249 _ (HLW.out.below bx_) A22.out) ?_;clear HB;intro w35 hb HB;replace BK239:=bb_ BK239 hb;replace BK240:=bb_ BK240 hb;replace BK241:=bb_ BK241 hb;clear hb;obtain ⟨hcz36_0,hcz36_1,hfz36_0,hfz36_1⟩:=c2_ BK239)|((with_reducible refine gate_callee (f:=62) rfl ?_);refine gl_ (some 32) Tryz.func62 #[.bool a0_0,.string t248] (integer_with.calls a0_0 t248 t250 t251 _ A23.out) ?_;clear HB;intro w37 hb HB;replace BK239:=bb_ BK239 hb;replace BK240:=bb_ BK240 hb;replace BK241:=bb_ BK241 hb;clear hb;obtain ⟨hcz38_0,hcz38_1,hfz38_0,hfz38_1⟩:=c2_ BK241))
  refine bodyPost_ret (results_cell_row rfl _ _ gb241 43 #[.bool t250,.string t251] (0,0) _ rfl bk_ Tryz.underlying43 rfl kr_) rfl ?_
  exact ⟨rf_,bx_⟩
end Go.Proofs.YtaknchlegjcdhaaGreatDoor.Pr
set_option linter.unusedVariables false
set_option linter.unusedSimpArgs false
namespace Go.Proofs.YtaknchlegjcdhaaGreatDoor.Pr
open Go.RowKit Go.Lib Go.Proofs.YtaknchlegjcdhaaGreatDoorW.PrintWords Go.Proofs.YtaknchlegjcdhaaGreatDoorW.PrintLast Go.Proofs.YtaknchlegjcdhaaGreatDoorW.PrintMore Go.Proofs.YtaknchlegjcdhaaGreatDoor.NatTh
def zn (b:Bool) (n:Nat):Int:=if b = true then -(n:Int) else n
def zp (z:Int):Bool × ByteArray:=(decide (z < 0),num z.natAbs)
def integer_number_plus.f (a0:Bool) (a1:ByteArray) (b0:Bool) (b1:ByteArray):Option (Bool × ByteArray) :=
 if (nv a1 && nv b1) = true∧Sh a1∧Sh b1 then some (zp (zn a0 (nat a1) + zn b0 (nat b1))) else none
theorem with_eq (b:Bool) (n:Nat):integer_with.f b (num n) = some (zp (zn b n)):=by
 unfold integer_with.f zp zn
 cases b with
 | false=>simp
 | true =>
  simp only [if_true]
  rw [show ((num n).toList != ([48]:List UInt8)) = decide (-(n:Int) < 0) by
   rw [bne,beq0]
   by_cases h:n = 0
   ·subst h;rfl
   ·rw [decide_eq_false h,decide_eq_true (by omega)];rfl,show (-(n:Int)).natAbs = n by omega]
theorem sum_eq (b:Bool) {m n:Nat} (hm:Sh (num m)) (hn:Sh (num n)):integer_sum.f b (num m) b (num n) = some (zp (zn b m + zn b n)):=by
 unfold integer_sum.f
 rw [add_f hm hn,Option.bind_some]
 dsimp only
 rw [with_eq,Option.bind_some]
 have:zn b (m + n) = zn b m + zn b n:=by
  unfold zn
  split<;>omega
 rw [this]
theorem diff_ev (b:Bool) {m n:Nat} (hm:Sh (num m)) (hn:Sh (num n)):Ev (fun k=>integer_difference.f k b (num m) (!b) (num n)) (zp (zn b m + zn (!b) n)):=by
 refine Ev.congr (fun k=>rfl) (Ev.bind (cmp_e hm hn) ?_)
 by_cases h:m < n
 ·refine Ev.congr (fun k=>?_) (Ev.now _)
  dsimp only
  rw [ord_lt h,if_pos (by omega),sub_f hn hm,if_neg (by omega),Option.bind_some]
  dsimp only
  rw [with_eq,Option.bind_some]
  have:zn (!b) (n - m) = zn b m + zn (!b) n:=by
   unfold zn
   cases b<;>simp<;>omega
  rw [this]
 ·refine Ev.congr (fun k=>?_) (Ev.now _)
  dsimp only
  rw [if_neg (fun e=>h ((ord_neg m n).1 e)),sub_f hm hn,if_neg h,Option.bind_some]
  dsimp only
  rw [with_eq,Option.bind_some]
  have:zn b (m - n) = zn b m + zn (!b) n:=by
   unfold zn
   cases b<;>simp<;>omega
  rw [this]
end Go.Proofs.YtaknchlegjcdhaaGreatDoor.Pr
namespace Go.Proofs.YtaknchlegjcdhaaGreatDoor.Pr
open Go.RowKit Go.Proofs.YtaknchlegjcdhaaGreatDoorW.PrintWords Go.Proofs.YtaknchlegjcdhaaGreatDoorW.PrintLast Go.Proofs.YtaknchlegjcdhaaGreatDoorW.PrintMore
attribute [local go_sem] max2_int min2_int max_two min_two max_three min_three max_four min_four
set_option maxHeartbeats 8000000
set_option maxRecDepth 100000
set_option linter.unusedVariables false
set_option linter.unusedSimpArgs false
def integer_bit.f (a0:Bool):Option (Int):=if a0 = true then (some 1) else (some 0)
theorem integer_bit.calls (a0:Bool) (r:Int) (w:World) (h:integer_bit.f a0 = some r) :
  Calls Tryz.prog 78 #[.bool a0] w fun e w'=>e = .returned (.int .i64 r)∧Drawn0 w w':=by
 have H:(if a0 = true then (some 1) else (some 0)) = some r:=h
 clear h
 by_cases c2:a0 = true
 ·subst c2
  have H1:(some 1) = some r:=by rw [if_pos rfl] at H;exact H
  clear H
  have H:=H1
  clear H1
  obtain rfl:=Option.some.inj H
  go_enter Tryz.func78,Tryz.ntmps78
  go_wp2
  go_ret
  exact ⟨by first|rfl|(simp;done)|(simp [*];done),by repeat (first|exact Drawn0.refl _|apply Drawn0.step)⟩
 ·replace c2:=Bool.eq_false_iff.mpr c2
  subst c2
  have H1:(some 0) = some r:=by rw [if_neg (show ¬ (false = true) by decide)] at H;exact H
  clear H
  have H:=H1
  clear H1
  obtain rfl:=Option.some.inj H
  go_enter Tryz.func78,Tryz.ntmps78
  go_wp2
  go_ret
  exact ⟨by first|rfl|(simp;done)|(simp [*];done),by repeat (first|exact Drawn0.refl _|apply Drawn0.step)⟩
end Go.Proofs.YtaknchlegjcdhaaGreatDoor.Pr
set_option maxHeartbeats 8000000
set_option maxRecDepth 100000
set_option linter.unusedVariables false
set_option linter.unusedSimpArgs false
namespace Go.Proofs.YtaknchlegjcdhaaGreatDoor.Pr
open Go.RowKit Go.Lib Go.Proofs.YtaknchlegjcdhaaGreatDoorW.PrintWords Go.Proofs.YtaknchlegjcdhaaGreatDoorW.PrintLast Go.Proofs.YtaknchlegjcdhaaGreatDoorW.PrintMore Go.Proofs.YtaknchlegjcdhaaGreatDoor.NatTh
theorem grown_setRow {W:World} {g:Nat} (hg:g < W.heap.size) (cs:Array Value):W.grownBy (W.setRow g cs) (some g):=by
 refine ⟨rfl,rfl,rfl,by simp,fun k hk hne=>?_⟩
 exact setRow_other W g k cs (fun e=>hne (by rw [e]))
theorem store_row {P:Program} {ops:Array Oper} {rest:List Oper} {o:Oper} {a:Act} {W:World} {Q:Exit→Act→World→Prop} (hgd:o.guard = none) (ty:TypeId) (x y:Operand) (ho:o.op = .store ty x y)
  (hd:o.dst = none) (g:Nat) (cells:Array Value) (hx:a.eval x = .pointer (some ⟨g,0,none⟩)) (hy:a.eval y = .agg cells)
  (t:TypeId) (old:Array Value) (hg:W.heap[g]? = some (.cells old t (0,0))) (hi:(P.info? ty).map (·.size) = some cells.size) (hold:old.size = cells.size) (h1:cells.all (·.oneCell') = true)
  (h:∀ w1,w1.heap[g]? = some (.cells cells t (0,0))→W.grownBy w1 (some g)→wpList P ops Q rest a w1):wpList P ops Q (o :: rest) a W :=
 wpList_store_rowTo hgd ty x y ho hd g cells hx hy t old hg hi hold h1 (h _ (setRow_heap W g old cells t (0,0) hg) (grown_setRow (blk_lt hg) cells))
theorem far1 {w:World} {g h i k:Nat} {x:Value} (hn:g≠h):(w.setCell ⟨g,i,none⟩ x).cell? ⟨h,k,none⟩ = w.cell? ⟨h,k,none⟩:=World.cell?_setCell_far w _ _ _ hn
theorem far2 {w:World} {g h i j k:Nat} {x y:Value} (hn:g≠h):((w.setCell ⟨g,i,none⟩ x).setCell ⟨g,j,none⟩ y).cell? ⟨h,k,none⟩ = w.cell? ⟨h,k,none⟩:=(far1 hn).trans (far1 hn)
theorem plus_ff (a1:ByteArray) (b1:ByteArray) (r:Bool × ByteArray) (w:World)
  (hs:∀ W,Below w.heap.size w W→Calls Tryz.prog 76 #[.agg #[.bool false,.string a1],.agg #[.bool false,.string b1]] W fun e W'=>e = .returned (.agg #[.bool r.1,.string r.2])∧Below W.heap.size W W') :
  Calls Tryz.prog 52 #[.agg #[.bool false,.string a1],.agg #[.bool false,.string b1]] w fun e w'=>e = .returned (.agg #[.bool r.1,.string r.2])∧Below w.heap.size w w':=by
 have hu43:=Tryz.underlying43
 have HS:=Aside0.mk hs
 have HB0:=Aside0.mk (Below.refl w.heap.size w)
 clear hs
 go_enter Tryz.func52,Tryz.ntmps52
 go_upto_region 2 with (first
  | ((with_reducible refine gate_dst (N:=2) rfl ?_);refine box_event ?hg (N:=2) ?hd (cs:=#[.bool false,.string a1]) (t:=43) ?hr ?_;(case hd=>rfl);(case hg=>rfl);(case hr=>first|(go_simp;done)|(go_simp;rfl));intro g2 hg2 w2 hbox2 hb2;have HB2:=Aside0.mk hb2;have K2:=Aside0.mk hbox2;have E2:=Aside0.mk hg2;clear hb2 hbox2 hg2)
  | ((with_reducible refine gate_dst (N:=3) rfl ?_);refine box_event ?hg (N:=3) ?hd (cs:=#[.bool false,.string b1]) (t:=43) ?hr ?_;(case hd=>rfl);(case hg=>rfl);(case hr=>first|(go_simp;done)|(go_simp;rfl));intro g3 hg3 w3 hbox3 hb3;have HB3:=Aside0.mk (below_step HB2.out hb3);have K3:=Aside0.mk hbox3;have K2a:=Aside0.mk (blk_below K2.out hb3);clear hb3 hbox3 hg3)
  | ((with_reducible refine gate_dst (N:=4) rfl ?_);refine box_event ?hg (N:=4) ?hd (cs:=#[.bool false,.string (⟨#[]⟩:ByteArray)]) (t:=43) ?hr ?_;(case hd=>rfl);(case hg=>rfl);(case hr=>first|(go_simp;done)|(go_simp;rfl));intro g4 hg4 w4 hbox4 hb4;have E4:=Aside0.mk (by rw [hg4];exact below_size HB3.out:w.heap.size≤g4);have HB4:=Aside0.mk (below_step HB3.out hb4);have K4:=Aside0.mk hbox4;have N42:=Aside0.mk (by rw [hg4];exact Nat.ne_of_gt (blk_lt K2a.out):g4≠g2);have N43:=Aside0.mk (by rw [hg4];exact Nat.ne_of_gt (blk_lt K3.out):g4≠g3);have K2b:=Aside0.mk (blk_below K2a.out hb4);have K3b:=Aside0.mk (blk_below K3.out hb4);clear hb4 hbox4 hg4)
  | ((with_reducible refine gate_dst (N:=5) rfl ?_);refine box_event ?hg (N:=5) ?hd (cs:=#[.nilFunc,.nilFunc,.nilFunc,.nilFunc]) (t:=89) ?hr ?_;(case hd=>rfl);(case hg=>rfl);(case hr=>first|(go_simp;done)|(go_simp;rfl));intro g5 hg5 w5 hbox5 hb5;have E5:=Aside0.mk (by rw [hg5];exact below_size HB4.out:w.heap.size≤g5);have N5:=Aside0.mk (by rw [hg5];exact Nat.ne_of_lt (blk_lt K2b.out):g2≠g5);have M5:=Aside0.mk (by rw [hg5];exact Nat.ne_of_lt (blk_lt K3b.out):g3≠g5);have L5:=Aside0.mk (by rw [hg5];exact Nat.ne_of_lt (blk_lt K4.out):g4≠g5);have N45:=Aside0.mk (by rw [hg5];exact Nat.ne_of_lt (blk_lt K4.out):g4≠g5);have HB5:=Aside0.mk (below_step HB4.out hb5);have K5:=Aside0.mk hbox5;have K2c:=Aside0.mk (blk_below K2b.out hb5);have K3c:=Aside0.mk (blk_below K3b.out hb5);have K4c:=Aside0.mk (blk_below K4.out hb5);clear hb5 hbox5 hg5)
  | ((with_reducible refine gate_store (t:=89) (p:=5) (v:=.tmp 8) rfl ?_);refine store_row rfl 89 (.tmp 5) (.tmp 8) rfl rfl g5 #[.func (.func 76) #[] #[],.func (.func 77) #[] #[],.func (.func 77) #[] #[],.func (.func 76) #[] #[]] rfl rfl 89 _ K5.out kr_ (by rfl) (by simp [Value.oneCell']) ?_;intro w6 hb6 hG6))
 have HB6:=Aside0.mk (pw_below_grown HB5.out _ HB5.out.size hG6 (fun k hk=>by injection hk with hk;rw [← hk];exact E5.out))
 have B2:=Aside0.mk ((hG6.block g2 (blk_lt K2c.out) (fun he=>N5.out (by injection he))).trans K2c.out)
 have B3:=Aside0.mk ((hG6.block g3 (blk_lt K3c.out) (fun he=>M5.out (by injection he))).trans K3c.out)
 have B4:=Aside0.mk ((hG6.block g4 (blk_lt K4c.out) (fun he=>L5.out (by injection he))).trans K4c.out)
 have B5:=Aside0.mk hb6
 clear hb6 hG6
 have N42:=Aside0.mk N42.out
 have c0:=blk_cell B2.out 0
 have c1:=blk_cell B2.out 1
 have c2:=blk_cell B3.out 0
 have c3:=blk_cell B3.out 1
 have c4:=blk_cell B5.out 0
 have c5:=blk_cell B5.out 1
 have c6:=blk_cell B5.out 2
 have c7:=blk_cell B5.out 3
 have l2:g2 < w6.heap.size:=blk_lt B2.out
 have l3:g3 < w6.heap.size:=blk_lt B3.out
 have l5:g5 < w6.heap.size:=blk_lt B5.out
 go_region_held3 (fun w'=>w'.cell? ⟨g2,0,none⟩ = some (.bool false)∧w'.cell? ⟨g2,1,none⟩ = some (.string a1)∧w'.cell? ⟨g3,0,none⟩ = some (.bool false)∧w'.cell? ⟨g3,1,none⟩ = some (.string b1)∧w'.cell? ⟨g5,0,none⟩ = some (.func (.func 76) #[] #[])∧w'.cell? ⟨g5,1,none⟩ = some (.func (.func 77) #[] #[])∧w'.cell? ⟨g5,2,none⟩ = some (.func (.func 77) #[] #[])∧w'.cell? ⟨g5,3,none⟩ = some (.func (.func 76) #[] #[]))
  (first|exact ⟨c0,c1,c2,c3,c4,c5,c6,c7⟩|exact ⟨p0,p1,p2,p3,p4,p5,p6,p7⟩|exact ⟨q0,q1,q2,q3,q4,q5,q6,q7⟩|exact ⟨r0,r1,r2,r3,r4,r5,r6,r7⟩|exact ⟨(far2 N42.out).trans r0,(far2 N42.out).trans r1,(far2 N43.out).trans r2,(far2 N43.out).trans r3,(far2 N45.out).trans r4,(far2 N45.out).trans r5,(far2 N45.out).trans r6,(far2 N45.out).trans r7⟩|exact ⟨(far1 N42.out).trans r0,(far1 N42.out).trans r1,(far1 N43.out).trans r2,(far1 N43.out).trans r3,(far1 N45.out).trans r4,(far1 N45.out).trans r5,(far1 N45.out).trans r6,(far1 N45.out).trans r7⟩)
  (first
   | (go_at_call 78;refine (integer_bit.calls false 0 _ rfl).mono ?_;rintro e wa ⟨rfl,hda⟩;have hba:=hda.below;have HBa:=Aside0.mk (below_step (below_drew1 HB6.out) hba);have p0:=(hba.cell (p:=⟨g2,0,none⟩) l2).trans c0;have p1:=(hba.cell (p:=⟨g2,1,none⟩) l2).trans c1;have p2:=(hba.cell (p:=⟨g3,0,none⟩) l3).trans c2;have p3:=(hba.cell (p:=⟨g3,1,none⟩) l3).trans c3;have p4:=(hba.cell (p:=⟨g5,0,none⟩) l5).trans c4;have p5:=(hba.cell (p:=⟨g5,1,none⟩) l5).trans c5;have p6:=(hba.cell (p:=⟨g5,2,none⟩) l5).trans c6;have p7:=(hba.cell (p:=⟨g5,3,none⟩) l5).trans c7;have l2a:=Nat.lt_of_lt_of_le l2 hba.size;have l3a:=Nat.lt_of_lt_of_le l3 hba.size;have l5a:=Nat.lt_of_lt_of_le l5 hba.size;have B4a:=Aside0.mk (blk_below (blk_drew B4.out) hba);clear hba hda)
   | (go_at_call 78;refine (integer_bit.calls false 0 _ rfl).mono ?_;rintro e wb ⟨rfl,hdb⟩;have hbb:=hdb.below;have HBb:=Aside0.mk (below_step HBa.out hbb);have q0:=(hbb.cell (p:=⟨g2,0,none⟩) l2a).trans p0;have q1:=(hbb.cell (p:=⟨g2,1,none⟩) l2a).trans p1;have q2:=(hbb.cell (p:=⟨g3,0,none⟩) l3a).trans p2;have q3:=(hbb.cell (p:=⟨g3,1,none⟩) l3a).trans p3;have q4:=(hbb.cell (p:=⟨g5,0,none⟩) l5a).trans p4;have q5:=(hbb.cell (p:=⟨g5,1,none⟩) l5a).trans p5;have q6:=(hbb.cell (p:=⟨g5,2,none⟩) l5a).trans p6;have q7:=(hbb.cell (p:=⟨g5,3,none⟩) l5a).trans p7;have l2b:=Nat.lt_of_lt_of_le l2a hbb.size;have l3b:=Nat.lt_of_lt_of_le l3a hbb.size;have l5b:=Nat.lt_of_lt_of_le l5a hbb.size;have B4b:=Aside0.mk (blk_below B4a.out hbb);clear hbb hdb)
   | (go_at_call 76;refine (HS.out _ HBb.out).mono ?_;rintro e wc ⟨rfl,hbc⟩;have HBc:=Aside0.mk (below_step HBb.out hbc);have r0:=(hbc.cell (p:=⟨g2,0,none⟩) l2b).trans q0;have r1:=(hbc.cell (p:=⟨g2,1,none⟩) l2b).trans q1;have r2:=(hbc.cell (p:=⟨g3,0,none⟩) l3b).trans q2;have r3:=(hbc.cell (p:=⟨g3,1,none⟩) l3b).trans q3;have r4:=(hbc.cell (p:=⟨g5,0,none⟩) l5b).trans q4;have r5:=(hbc.cell (p:=⟨g5,1,none⟩) l5b).trans q5;have r6:=(hbc.cell (p:=⟨g5,2,none⟩) l5b).trans q6;have r7:=(hbc.cell (p:=⟨g5,3,none⟩) l5b).trans q7;have B4c:=Aside0.mk (blk_below B4b.out hbc);have d0:=blk_cell B4c.out 0;have d1:=blk_cell B4c.out 1;have z0:=blk_frozen B4c.out 0;have z1:=blk_frozen B4c.out 1;clear hbc))
 go_wp2
 refine bodyPost_ret (results_cell_row rfl _ _ g4 43 #[.bool r.1,.string r.2] (0,0) _ rfl (blk_put (cs:=#[.bool r.1,.string (⟨#[]⟩:ByteArray)]) (blk_put (cs:=#[.bool false,.string (⟨#[]⟩:ByteArray)]) B4c.out 0 _ rfl) 1 _ rfl) Tryz.underlying43 rfl kr_) rfl ?_
 exact ⟨rfl,below_set (below_set HBc.out E4.out) E4.out⟩
theorem plus_ft (a1:ByteArray) (b1:ByteArray) (r:Bool × ByteArray) (w:World)
  (hs:∀ W,Below w.heap.size w W→Calls Tryz.prog 77 #[.agg #[.bool false,.string a1],.agg #[.bool true,.string b1]] W fun e W'=>e = .returned (.agg #[.bool r.1,.string r.2])∧Below W.heap.size W W') :
  Calls Tryz.prog 52 #[.agg #[.bool false,.string a1],.agg #[.bool true,.string b1]] w fun e w'=>e = .returned (.agg #[.bool r.1,.string r.2])∧Below w.heap.size w w':=by
 have hu43:=Tryz.underlying43
 have HS:=Aside0.mk hs
 have HB0:=Aside0.mk (Below.refl w.heap.size w)
 clear hs
 go_enter Tryz.func52,Tryz.ntmps52
 go_upto_region 2 with (first
  | ((with_reducible refine gate_dst (N:=2) rfl ?_);refine box_event ?hg (N:=2) ?hd (cs:=#[.bool false,.string a1]) (t:=43) ?hr ?_;(case hd=>rfl);(case hg=>rfl);(case hr=>first|(go_simp;done)|(go_simp;rfl));intro g2 hg2 w2 hbox2 hb2;have HB2:=Aside0.mk hb2;have K2:=Aside0.mk hbox2;have E2:=Aside0.mk hg2;clear hb2 hbox2 hg2)
  | ((with_reducible refine gate_dst (N:=3) rfl ?_);refine box_event ?hg (N:=3) ?hd (cs:=#[.bool true,.string b1]) (t:=43) ?hr ?_;(case hd=>rfl);(case hg=>rfl);(case hr=>first|(go_simp;done)|(go_simp;rfl));intro g3 hg3 w3 hbox3 hb3;have HB3:=Aside0.mk (below_step HB2.out hb3);have K3:=Aside0.mk hbox3;have K2a:=Aside0.mk (blk_below K2.out hb3);clear hb3 hbox3 hg3)
  | ((with_reducible refine gate_dst (N:=4) rfl ?_);refine box_event ?hg (N:=4) ?hd (cs:=#[.bool false,.string (⟨#[]⟩:ByteArray)]) (t:=43) ?hr ?_;(case hd=>rfl);(case hg=>rfl);(case hr=>first|(go_simp;done)|(go_simp;rfl));intro g4 hg4 w4 hbox4 hb4;have E4:=Aside0.mk (by rw [hg4];exact below_size HB3.out:w.heap.size≤g4);have HB4:=Aside0.mk (below_step HB3.out hb4);have K4:=Aside0.mk hbox4;have N42:=Aside0.mk (by rw [hg4];exact Nat.ne_of_gt (blk_lt K2a.out):g4≠g2);have N43:=Aside0.mk (by rw [hg4];exact Nat.ne_of_gt (blk_lt K3.out):g4≠g3);have K2b:=Aside0.mk (blk_below K2a.out hb4);have K3b:=Aside0.mk (blk_below K3.out hb4);clear hb4 hbox4 hg4)
  | ((with_reducible refine gate_dst (N:=5) rfl ?_);refine box_event ?hg (N:=5) ?hd (cs:=#[.nilFunc,.nilFunc,.nilFunc,.nilFunc]) (t:=89) ?hr ?_;(case hd=>rfl);(case hg=>rfl);(case hr=>first|(go_simp;done)|(go_simp;rfl));intro g5 hg5 w5 hbox5 hb5;have E5:=Aside0.mk (by rw [hg5];exact below_size HB4.out:w.heap.size≤g5);have N5:=Aside0.mk (by rw [hg5];exact Nat.ne_of_lt (blk_lt K2b.out):g2≠g5);have M5:=Aside0.mk (by rw [hg5];exact Nat.ne_of_lt (blk_lt K3b.out):g3≠g5);have L5:=Aside0.mk (by rw [hg5];exact Nat.ne_of_lt (blk_lt K4.out):g4≠g5);have N45:=Aside0.mk (by rw [hg5];exact Nat.ne_of_lt (blk_lt K4.out):g4≠g5);have HB5:=Aside0.mk (below_step HB4.out hb5);have K5:=Aside0.mk hbox5;have K2c:=Aside0.mk (blk_below K2b.out hb5);have K3c:=Aside0.mk (blk_below K3b.out hb5);have K4c:=Aside0.mk (blk_below K4.out hb5);clear hb5 hbox5 hg5)
  | ((with_reducible refine gate_store (t:=89) (p:=5) (v:=.tmp 8) rfl ?_);refine store_row rfl 89 (.tmp 5) (.tmp 8) rfl rfl g5 #[.func (.func 76) #[] #[],.func (.func 77) #[] #[],.func (.func 77) #[] #[],.func (.func 76) #[] #[]] rfl rfl 89 _ K5.out kr_ (by rfl) (by simp [Value.oneCell']) ?_;intro w6 hb6 hG6))
 have HB6:=Aside0.mk (pw_below_grown HB5.out _ HB5.out.size hG6 (fun k hk=>by injection hk with hk;rw [← hk];exact E5.out))
 have B2:=Aside0.mk ((hG6.block g2 (blk_lt K2c.out) (fun he=>N5.out (by injection he))).trans K2c.out)
 have B3:=Aside0.mk ((hG6.block g3 (blk_lt K3c.out) (fun he=>M5.out (by injection he))).trans K3c.out)
 have B4:=Aside0.mk ((hG6.block g4 (blk_lt K4c.out) (fun he=>L5.out (by injection he))).trans K4c.out)
 have B5:=Aside0.mk hb6
 clear hb6 hG6
 have N42:=Aside0.mk N42.out
 have c0:=blk_cell B2.out 0
 have c1:=blk_cell B2.out 1
 have c2:=blk_cell B3.out 0
 have c3:=blk_cell B3.out 1
 have c4:=blk_cell B5.out 0
 have c5:=blk_cell B5.out 1
 have c6:=blk_cell B5.out 2
 have c7:=blk_cell B5.out 3
 have l2:g2 < w6.heap.size:=blk_lt B2.out
 have l3:g3 < w6.heap.size:=blk_lt B3.out
 have l5:g5 < w6.heap.size:=blk_lt B5.out
 go_region_held3 (fun w'=>w'.cell? ⟨g2,0,none⟩ = some (.bool false)∧w'.cell? ⟨g2,1,none⟩ = some (.string a1)∧w'.cell? ⟨g3,0,none⟩ = some (.bool true)∧w'.cell? ⟨g3,1,none⟩ = some (.string b1)∧w'.cell? ⟨g5,0,none⟩ = some (.func (.func 76) #[] #[])∧w'.cell? ⟨g5,1,none⟩ = some (.func (.func 77) #[] #[])∧w'.cell? ⟨g5,2,none⟩ = some (.func (.func 77) #[] #[])∧w'.cell? ⟨g5,3,none⟩ = some (.func (.func 76) #[] #[]))
  (first|exact ⟨c0,c1,c2,c3,c4,c5,c6,c7⟩|exact ⟨p0,p1,p2,p3,p4,p5,p6,p7⟩|exact ⟨q0,q1,q2,q3,q4,q5,q6,q7⟩|exact ⟨r0,r1,r2,r3,r4,r5,r6,r7⟩|exact ⟨(far2 N42.out).trans r0,(far2 N42.out).trans r1,(far2 N43.out).trans r2,(far2 N43.out).trans r3,(far2 N45.out).trans r4,(far2 N45.out).trans r5,(far2 N45.out).trans r6,(far2 N45.out).trans r7⟩|exact ⟨(far1 N42.out).trans r0,(far1 N42.out).trans r1,(far1 N43.out).trans r2,(far1 N43.out).trans r3,(far1 N45.out).trans r4,(far1 N45.out).trans r5,(far1 N45.out).trans r6,(far1 N45.out).trans r7⟩)
  (first
   | (go_at_call 78;refine (integer_bit.calls false 0 _ rfl).mono ?_;rintro e wa ⟨rfl,hda⟩;have hba:=hda.below;have HBa:=Aside0.mk (below_step (below_drew1 HB6.out) hba);have p0:=(hba.cell (p:=⟨g2,0,none⟩) l2).trans c0;have p1:=(hba.cell (p:=⟨g2,1,none⟩) l2).trans c1;have p2:=(hba.cell (p:=⟨g3,0,none⟩) l3).trans c2;have p3:=(hba.cell (p:=⟨g3,1,none⟩) l3).trans c3;have p4:=(hba.cell (p:=⟨g5,0,none⟩) l5).trans c4;have p5:=(hba.cell (p:=⟨g5,1,none⟩) l5).trans c5;have p6:=(hba.cell (p:=⟨g5,2,none⟩) l5).trans c6;have p7:=(hba.cell (p:=⟨g5,3,none⟩) l5).trans c7;have l2a:=Nat.lt_of_lt_of_le l2 hba.size;have l3a:=Nat.lt_of_lt_of_le l3 hba.size;have l5a:=Nat.lt_of_lt_of_le l5 hba.size;have B4a:=Aside0.mk (blk_below (blk_drew B4.out) hba);clear hba hda)
   | (go_at_call 78;refine (integer_bit.calls true 1 _ rfl).mono ?_;rintro e wb ⟨rfl,hdb⟩;have hbb:=hdb.below;have HBb:=Aside0.mk (below_step HBa.out hbb);have q0:=(hbb.cell (p:=⟨g2,0,none⟩) l2a).trans p0;have q1:=(hbb.cell (p:=⟨g2,1,none⟩) l2a).trans p1;have q2:=(hbb.cell (p:=⟨g3,0,none⟩) l3a).trans p2;have q3:=(hbb.cell (p:=⟨g3,1,none⟩) l3a).trans p3;have q4:=(hbb.cell (p:=⟨g5,0,none⟩) l5a).trans p4;have q5:=(hbb.cell (p:=⟨g5,1,none⟩) l5a).trans p5;have q6:=(hbb.cell (p:=⟨g5,2,none⟩) l5a).trans p6;have q7:=(hbb.cell (p:=⟨g5,3,none⟩) l5a).trans p7;have l2b:=Nat.lt_of_lt_of_le l2a hbb.size;have l3b:=Nat.lt_of_lt_of_le l3a hbb.size;have l5b:=Nat.lt_of_lt_of_le l5a hbb.size;have B4b:=Aside0.mk (blk_below B4a.out hbb);clear hbb hdb)
   | (go_at_call 77;refine (HS.out _ HBb.out).mono ?_;rintro e wc ⟨rfl,hbc⟩;have HBc:=Aside0.mk (below_step HBb.out hbc);have r0:=(hbc.cell (p:=⟨g2,0,none⟩) l2b).trans q0;have r1:=(hbc.cell (p:=⟨g2,1,none⟩) l2b).trans q1;have r2:=(hbc.cell (p:=⟨g3,0,none⟩) l3b).trans q2;have r3:=(hbc.cell (p:=⟨g3,1,none⟩) l3b).trans q3;have r4:=(hbc.cell (p:=⟨g5,0,none⟩) l5b).trans q4;have r5:=(hbc.cell (p:=⟨g5,1,none⟩) l5b).trans q5;have r6:=(hbc.cell (p:=⟨g5,2,none⟩) l5b).trans q6;have r7:=(hbc.cell (p:=⟨g5,3,none⟩) l5b).trans q7;have B4c:=Aside0.mk (blk_below B4b.out hbc);have d0:=blk_cell B4c.out 0;have d1:=blk_cell B4c.out 1;have z0:=blk_frozen B4c.out 0;have z1:=blk_frozen B4c.out 1;clear hbc))
 go_wp2
 refine bodyPost_ret (results_cell_row rfl _ _ g4 43 #[.bool r.1,.string r.2] (0,0) _ rfl (blk_put (cs:=#[.bool r.1,.string (⟨#[]⟩:ByteArray)]) (blk_put (cs:=#[.bool false,.string (⟨#[]⟩:ByteArray)]) B4c.out 0 _ rfl) 1 _ rfl) Tryz.underlying43 rfl kr_) rfl ?_
 exact ⟨rfl,below_set (below_set HBc.out E4.out) E4.out⟩
theorem plus_tf (a1:ByteArray) (b1:ByteArray) (r:Bool × ByteArray) (w:World)
  (hs:∀ W,Below w.heap.size w W→Calls Tryz.prog 77 #[.agg #[.bool true,.string a1],.agg #[.bool false,.string b1]] W fun e W'=>e = .returned (.agg #[.bool r.1,.string r.2])∧Below W.heap.size W W') :
  Calls Tryz.prog 52 #[.agg #[.bool true,.string a1],.agg #[.bool false,.string b1]] w fun e w'=>e = .returned (.agg #[.bool r.1,.string r.2])∧Below w.heap.size w w':=by
 have hu43:=Tryz.underlying43
 have HS:=Aside0.mk hs
 have HB0:=Aside0.mk (Below.refl w.heap.size w)
 clear hs
 go_enter Tryz.func52,Tryz.ntmps52
 go_upto_region 2 with (first
  | ((with_reducible refine gate_dst (N:=2) rfl ?_);refine box_event ?hg (N:=2) ?hd (cs:=#[.bool true,.string a1]) (t:=43) ?hr ?_;(case hd=>rfl);(case hg=>rfl);(case hr=>first|(go_simp;done)|(go_simp;rfl));intro g2 hg2 w2 hbox2 hb2;have HB2:=Aside0.mk hb2;have K2:=Aside0.mk hbox2;have E2:=Aside0.mk hg2;clear hb2 hbox2 hg2)
  | ((with_reducible refine gate_dst (N:=3) rfl ?_);refine box_event ?hg (N:=3) ?hd (cs:=#[.bool false,.string b1]) (t:=43) ?hr ?_;(case hd=>rfl);(case hg=>rfl);(case hr=>first|(go_simp;done)|(go_simp;rfl));intro g3 hg3 w3 hbox3 hb3;have HB3:=Aside0.mk (below_step HB2.out hb3);have K3:=Aside0.mk hbox3;have K2a:=Aside0.mk (blk_below K2.out hb3);clear hb3 hbox3 hg3)
  | ((with_reducible refine gate_dst (N:=4) rfl ?_);refine box_event ?hg (N:=4) ?hd (cs:=#[.bool false,.string (⟨#[]⟩:ByteArray)]) (t:=43) ?hr ?_;(case hd=>rfl);(case hg=>rfl);(case hr=>first|(go_simp;done)|(go_simp;rfl));intro g4 hg4 w4 hbox4 hb4;have E4:=Aside0.mk (by rw [hg4];exact below_size HB3.out:w.heap.size≤g4);have HB4:=Aside0.mk (below_step HB3.out hb4);have K4:=Aside0.mk hbox4;have N42:=Aside0.mk (by rw [hg4];exact Nat.ne_of_gt (blk_lt K2a.out):g4≠g2);have N43:=Aside0.mk (by rw [hg4];exact Nat.ne_of_gt (blk_lt K3.out):g4≠g3);have K2b:=Aside0.mk (blk_below K2a.out hb4);have K3b:=Aside0.mk (blk_below K3.out hb4);clear hb4 hbox4 hg4)
  | ((with_reducible refine gate_dst (N:=5) rfl ?_);refine box_event ?hg (N:=5) ?hd (cs:=#[.nilFunc,.nilFunc,.nilFunc,.nilFunc]) (t:=89) ?hr ?_;(case hd=>rfl);(case hg=>rfl);(case hr=>first|(go_simp;done)|(go_simp;rfl));intro g5 hg5 w5 hbox5 hb5;have E5:=Aside0.mk (by rw [hg5];exact below_size HB4.out:w.heap.size≤g5);have N5:=Aside0.mk (by rw [hg5];exact Nat.ne_of_lt (blk_lt K2b.out):g2≠g5);have M5:=Aside0.mk (by rw [hg5];exact Nat.ne_of_lt (blk_lt K3b.out):g3≠g5);have L5:=Aside0.mk (by rw [hg5];exact Nat.ne_of_lt (blk_lt K4.out):g4≠g5);have N45:=Aside0.mk (by rw [hg5];exact Nat.ne_of_lt (blk_lt K4.out):g4≠g5);have HB5:=Aside0.mk (below_step HB4.out hb5);have K5:=Aside0.mk hbox5;have K2c:=Aside0.mk (blk_below K2b.out hb5);have K3c:=Aside0.mk (blk_below K3b.out hb5);have K4c:=Aside0.mk (blk_below K4.out hb5);clear hb5 hbox5 hg5)
  | ((with_reducible refine gate_store (t:=89) (p:=5) (v:=.tmp 8) rfl ?_);refine store_row rfl 89 (.tmp 5) (.tmp 8) rfl rfl g5 #[.func (.func 76) #[] #[],.func (.func 77) #[] #[],.func (.func 77) #[] #[],.func (.func 76) #[] #[]] rfl rfl 89 _ K5.out kr_ (by rfl) (by simp [Value.oneCell']) ?_;intro w6 hb6 hG6))
 have HB6:=Aside0.mk (pw_below_grown HB5.out _ HB5.out.size hG6 (fun k hk=>by injection hk with hk;rw [← hk];exact E5.out))
 have B2:=Aside0.mk ((hG6.block g2 (blk_lt K2c.out) (fun he=>N5.out (by injection he))).trans K2c.out)
 have B3:=Aside0.mk ((hG6.block g3 (blk_lt K3c.out) (fun he=>M5.out (by injection he))).trans K3c.out)
 have B4:=Aside0.mk ((hG6.block g4 (blk_lt K4c.out) (fun he=>L5.out (by injection he))).trans K4c.out)
 have B5:=Aside0.mk hb6
 clear hb6 hG6
 have N42:=Aside0.mk N42.out
 have c0:=blk_cell B2.out 0
 have c1:=blk_cell B2.out 1
 have c2:=blk_cell B3.out 0
 have c3:=blk_cell B3.out 1
 have c4:=blk_cell B5.out 0
 have c5:=blk_cell B5.out 1
 have c6:=blk_cell B5.out 2
 have c7:=blk_cell B5.out 3
 have l2:g2 < w6.heap.size:=blk_lt B2.out
 have l3:g3 < w6.heap.size:=blk_lt B3.out
 have l5:g5 < w6.heap.size:=blk_lt B5.out
 go_region_held3 (fun w'=>w'.cell? ⟨g2,0,none⟩ = some (.bool true)∧w'.cell? ⟨g2,1,none⟩ = some (.string a1)∧w'.cell? ⟨g3,0,none⟩ = some (.bool false)∧w'.cell? ⟨g3,1,none⟩ = some (.string b1)∧w'.cell? ⟨g5,0,none⟩ = some (.func (.func 76) #[] #[])∧w'.cell? ⟨g5,1,none⟩ = some (.func (.func 77) #[] #[])∧w'.cell? ⟨g5,2,none⟩ = some (.func (.func 77) #[] #[])∧w'.cell? ⟨g5,3,none⟩ = some (.func (.func 76) #[] #[]))
  (first|exact ⟨c0,c1,c2,c3,c4,c5,c6,c7⟩|exact ⟨p0,p1,p2,p3,p4,p5,p6,p7⟩|exact ⟨q0,q1,q2,q3,q4,q5,q6,q7⟩|exact ⟨r0,r1,r2,r3,r4,r5,r6,r7⟩|exact ⟨(far2 N42.out).trans r0,(far2 N42.out).trans r1,(far2 N43.out).trans r2,(far2 N43.out).trans r3,(far2 N45.out).trans r4,(far2 N45.out).trans r5,(far2 N45.out).trans r6,(far2 N45.out).trans r7⟩|exact ⟨(far1 N42.out).trans r0,(far1 N42.out).trans r1,(far1 N43.out).trans r2,(far1 N43.out).trans r3,(far1 N45.out).trans r4,(far1 N45.out).trans r5,(far1 N45.out).trans r6,(far1 N45.out).trans r7⟩)
  (first
   | (go_at_call 78;refine (integer_bit.calls true 1 _ rfl).mono ?_;rintro e wa ⟨rfl,hda⟩;have hba:=hda.below;have HBa:=Aside0.mk (below_step (below_drew1 HB6.out) hba);have p0:=(hba.cell (p:=⟨g2,0,none⟩) l2).trans c0;have p1:=(hba.cell (p:=⟨g2,1,none⟩) l2).trans c1;have p2:=(hba.cell (p:=⟨g3,0,none⟩) l3).trans c2;have p3:=(hba.cell (p:=⟨g3,1,none⟩) l3).trans c3;have p4:=(hba.cell (p:=⟨g5,0,none⟩) l5).trans c4;have p5:=(hba.cell (p:=⟨g5,1,none⟩) l5).trans c5;have p6:=(hba.cell (p:=⟨g5,2,none⟩) l5).trans c6;have p7:=(hba.cell (p:=⟨g5,3,none⟩) l5).trans c7;have l2a:=Nat.lt_of_lt_of_le l2 hba.size;have l3a:=Nat.lt_of_lt_of_le l3 hba.size;have l5a:=Nat.lt_of_lt_of_le l5 hba.size;have B4a:=Aside0.mk (blk_below (blk_drew B4.out) hba);clear hba hda)
   | (go_at_call 78;refine (integer_bit.calls false 0 _ rfl).mono ?_;rintro e wb ⟨rfl,hdb⟩;have hbb:=hdb.below;have HBb:=Aside0.mk (below_step HBa.out hbb);have q0:=(hbb.cell (p:=⟨g2,0,none⟩) l2a).trans p0;have q1:=(hbb.cell (p:=⟨g2,1,none⟩) l2a).trans p1;have q2:=(hbb.cell (p:=⟨g3,0,none⟩) l3a).trans p2;have q3:=(hbb.cell (p:=⟨g3,1,none⟩) l3a).trans p3;have q4:=(hbb.cell (p:=⟨g5,0,none⟩) l5a).trans p4;have q5:=(hbb.cell (p:=⟨g5,1,none⟩) l5a).trans p5;have q6:=(hbb.cell (p:=⟨g5,2,none⟩) l5a).trans p6;have q7:=(hbb.cell (p:=⟨g5,3,none⟩) l5a).trans p7;have l2b:=Nat.lt_of_lt_of_le l2a hbb.size;have l3b:=Nat.lt_of_lt_of_le l3a hbb.size;have l5b:=Nat.lt_of_lt_of_le l5a hbb.size;have B4b:=Aside0.mk (blk_below B4a.out hbb);clear hbb hdb)
   | (go_at_call 77;refine (HS.out _ HBb.out).mono ?_;rintro e wc ⟨rfl,hbc⟩;have HBc:=Aside0.mk (below_step HBb.out hbc);have r0:=(hbc.cell (p:=⟨g2,0,none⟩) l2b).trans q0;have r1:=(hbc.cell (p:=⟨g2,1,none⟩) l2b).trans q1;have r2:=(hbc.cell (p:=⟨g3,0,none⟩) l3b).trans q2;have r3:=(hbc.cell (p:=⟨g3,1,none⟩) l3b).trans q3;have r4:=(hbc.cell (p:=⟨g5,0,none⟩) l5b).trans q4;have r5:=(hbc.cell (p:=⟨g5,1,none⟩) l5b).trans q5;have r6:=(hbc.cell (p:=⟨g5,2,none⟩) l5b).trans q6;have r7:=(hbc.cell (p:=⟨g5,3,none⟩) l5b).trans q7;have B4c:=Aside0.mk (blk_below B4b.out hbc);have d0:=blk_cell B4c.out 0;have d1:=blk_cell B4c.out 1;have z0:=blk_frozen B4c.out 0;have z1:=blk_frozen B4c.out 1;clear hbc))
 go_wp2
 refine bodyPost_ret (results_cell_row rfl _ _ g4 43 #[.bool r.1,.string r.2] (0,0) _ rfl (blk_put (cs:=#[.bool r.1,.string (⟨#[]⟩:ByteArray)]) (blk_put (cs:=#[.bool false,.string (⟨#[]⟩:ByteArray)]) B4c.out 0 _ rfl) 1 _ rfl) Tryz.underlying43 rfl kr_) rfl ?_
 exact ⟨rfl,below_set (below_set HBc.out E4.out) E4.out⟩
theorem plus_tt (a1:ByteArray) (b1:ByteArray) (r:Bool × ByteArray) (w:World)
  (hs:∀ W,Below w.heap.size w W→Calls Tryz.prog 76 #[.agg #[.bool true,.string a1],.agg #[.bool true,.string b1]] W fun e W'=>e = .returned (.agg #[.bool r.1,.string r.2])∧Below W.heap.size W W') :
  Calls Tryz.prog 52 #[.agg #[.bool true,.string a1],.agg #[.bool true,.string b1]] w fun e w'=>e = .returned (.agg #[.bool r.1,.string r.2])∧Below w.heap.size w w':=by
 have hu43:=Tryz.underlying43
 have HS:=Aside0.mk hs
 have HB0:=Aside0.mk (Below.refl w.heap.size w)
 clear hs
 go_enter Tryz.func52,Tryz.ntmps52
 go_upto_region 2 with (first
  | ((with_reducible refine gate_dst (N:=2) rfl ?_);refine box_event ?hg (N:=2) ?hd (cs:=#[.bool true,.string a1]) (t:=43) ?hr ?_;(case hd=>rfl);(case hg=>rfl);(case hr=>first|(go_simp;done)|(go_simp;rfl));intro g2 hg2 w2 hbox2 hb2;have HB2:=Aside0.mk hb2;have K2:=Aside0.mk hbox2;have E2:=Aside0.mk hg2;clear hb2 hbox2 hg2)
  | ((with_reducible refine gate_dst (N:=3) rfl ?_);refine box_event ?hg (N:=3) ?hd (cs:=#[.bool true,.string b1]) (t:=43) ?hr ?_;(case hd=>rfl);(case hg=>rfl);(case hr=>first|(go_simp;done)|(go_simp;rfl));intro g3 hg3 w3 hbox3 hb3;have HB3:=Aside0.mk (below_step HB2.out hb3);have K3:=Aside0.mk hbox3;have K2a:=Aside0.mk (blk_below K2.out hb3);clear hb3 hbox3 hg3)
  | ((with_reducible refine gate_dst (N:=4) rfl ?_);refine box_event ?hg (N:=4) ?hd (cs:=#[.bool false,.string (⟨#[]⟩:ByteArray)]) (t:=43) ?hr ?_;(case hd=>rfl);(case hg=>rfl);(case hr=>first|(go_simp;done)|(go_simp;rfl));intro g4 hg4 w4 hbox4 hb4;have E4:=Aside0.mk (by rw [hg4];exact below_size HB3.out:w.heap.size≤g4);have HB4:=Aside0.mk (below_step HB3.out hb4);have K4:=Aside0.mk hbox4;have N42:=Aside0.mk (by rw [hg4];exact Nat.ne_of_gt (blk_lt K2a.out):g4≠g2);have N43:=Aside0.mk (by rw [hg4];exact Nat.ne_of_gt (blk_lt K3.out):g4≠g3);have K2b:=Aside0.mk (blk_below K2a.out hb4);have K3b:=Aside0.mk (blk_below K3.out hb4);clear hb4 hbox4 hg4)
  | ((with_reducible refine gate_dst (N:=5) rfl ?_);refine box_event ?hg (N:=5) ?hd (cs:=#[.nilFunc,.nilFunc,.nilFunc,.nilFunc]) (t:=89) ?hr ?_;(case hd=>rfl);(case hg=>rfl);(case hr=>first|(go_simp;done)|(go_simp;rfl));intro g5 hg5 w5 hbox5 hb5;have E5:=Aside0.mk (by rw [hg5];exact below_size HB4.out:w.heap.size≤g5);have N5:=Aside0.mk (by rw [hg5];exact Nat.ne_of_lt (blk_lt K2b.out):g2≠g5);have M5:=Aside0.mk (by rw [hg5];exact Nat.ne_of_lt (blk_lt K3b.out):g3≠g5);have L5:=Aside0.mk (by rw [hg5];exact Nat.ne_of_lt (blk_lt K4.out):g4≠g5);have N45:=Aside0.mk (by rw [hg5];exact Nat.ne_of_lt (blk_lt K4.out):g4≠g5);have HB5:=Aside0.mk (below_step HB4.out hb5);have K5:=Aside0.mk hbox5;have K2c:=Aside0.mk (blk_below K2b.out hb5);have K3c:=Aside0.mk (blk_below K3b.out hb5);have K4c:=Aside0.mk (blk_below K4.out hb5);clear hb5 hbox5 hg5)
  | ((with_reducible refine gate_store (t:=89) (p:=5) (v:=.tmp 8) rfl ?_);refine store_row rfl 89 (.tmp 5) (.tmp 8) rfl rfl g5 #[.func (.func 76) #[] #[],.func (.func 77) #[] #[],.func (.func 77) #[] #[],.func (.func 76) #[] #[]] rfl rfl 89 _ K5.out kr_ (by rfl) (by simp [Value.oneCell']) ?_;intro w6 hb6 hG6))
 have HB6:=Aside0.mk (pw_below_grown HB5.out _ HB5.out.size hG6 (fun k hk=>by injection hk with hk;rw [← hk];exact E5.out))
 have B2:=Aside0.mk ((hG6.block g2 (blk_lt K2c.out) (fun he=>N5.out (by injection he))).trans K2c.out)
 have B3:=Aside0.mk ((hG6.block g3 (blk_lt K3c.out) (fun he=>M5.out (by injection he))).trans K3c.out)
 have B4:=Aside0.mk ((hG6.block g4 (blk_lt K4c.out) (fun he=>L5.out (by injection he))).trans K4c.out)
 have B5:=Aside0.mk hb6
 clear hb6 hG6
 have N42:=Aside0.mk N42.out
 have c0:=blk_cell B2.out 0
 have c1:=blk_cell B2.out 1
 have c2:=blk_cell B3.out 0
 have c3:=blk_cell B3.out 1
 have c4:=blk_cell B5.out 0
 have c5:=blk_cell B5.out 1
 have c6:=blk_cell B5.out 2
 have c7:=blk_cell B5.out 3
 have l2:g2 < w6.heap.size:=blk_lt B2.out
 have l3:g3 < w6.heap.size:=blk_lt B3.out
 have l5:g5 < w6.heap.size:=blk_lt B5.out
 go_region_held3 (fun w'=>w'.cell? ⟨g2,0,none⟩ = some (.bool true)∧w'.cell? ⟨g2,1,none⟩ = some (.string a1)∧w'.cell? ⟨g3,0,none⟩ = some (.bool true)∧w'.cell? ⟨g3,1,none⟩ = some (.string b1)∧w'.cell? ⟨g5,0,none⟩ = some (.func (.func 76) #[] #[])∧w'.cell? ⟨g5,1,none⟩ = some (.func (.func 77) #[] #[])∧w'.cell? ⟨g5,2,none⟩ = some (.func (.func 77) #[] #[])∧w'.cell? ⟨g5,3,none⟩ = some (.func (.func 76) #[] #[]))
  (first|exact ⟨c0,c1,c2,c3,c4,c5,c6,c7⟩|exact ⟨p0,p1,p2,p3,p4,p5,p6,p7⟩|exact ⟨q0,q1,q2,q3,q4,q5,q6,q7⟩|exact ⟨r0,r1,r2,r3,r4,r5,r6,r7⟩|exact ⟨(far2 N42.out).trans r0,(far2 N42.out).trans r1,(far2 N43.out).trans r2,(far2 N43.out).trans r3,(far2 N45.out).trans r4,(far2 N45.out).trans r5,(far2 N45.out).trans r6,(far2 N45.out).trans r7⟩|exact ⟨(far1 N42.out).trans r0,(far1 N42.out).trans r1,(far1 N43.out).trans r2,(far1 N43.out).trans r3,(far1 N45.out).trans r4,(far1 N45.out).trans r5,(far1 N45.out).trans r6,(far1 N45.out).trans r7⟩)
  (first
   | (go_at_call 78;refine (integer_bit.calls true 1 _ rfl).mono ?_;rintro e wa ⟨rfl,hda⟩;have hba:=hda.below;have HBa:=Aside0.mk (below_step (below_drew1 HB6.out) hba);have p0:=(hba.cell (p:=⟨g2,0,none⟩) l2).trans c0;have p1:=(hba.cell (p:=⟨g2,1,none⟩) l2).trans c1;have p2:=(hba.cell (p:=⟨g3,0,none⟩) l3).trans c2;have p3:=(hba.cell (p:=⟨g3,1,none⟩) l3).trans c3;have p4:=(hba.cell (p:=⟨g5,0,none⟩) l5).trans c4;have p5:=(hba.cell (p:=⟨g5,1,none⟩) l5).trans c5;have p6:=(hba.cell (p:=⟨g5,2,none⟩) l5).trans c6;have p7:=(hba.cell (p:=⟨g5,3,none⟩) l5).trans c7;have l2a:=Nat.lt_of_lt_of_le l2 hba.size;have l3a:=Nat.lt_of_lt_of_le l3 hba.size;have l5a:=Nat.lt_of_lt_of_le l5 hba.size;have B4a:=Aside0.mk (blk_below (blk_drew B4.out) hba);clear hba hda)
   | (go_at_call 78;refine (integer_bit.calls true 1 _ rfl).mono ?_;rintro e wb ⟨rfl,hdb⟩;have hbb:=hdb.below;have HBb:=Aside0.mk (below_step HBa.out hbb);have q0:=(hbb.cell (p:=⟨g2,0,none⟩) l2a).trans p0;have q1:=(hbb.cell (p:=⟨g2,1,none⟩) l2a).trans p1;have q2:=(hbb.cell (p:=⟨g3,0,none⟩) l3a).trans p2;have q3:=(hbb.cell (p:=⟨g3,1,none⟩) l3a).trans p3;have q4:=(hbb.cell (p:=⟨g5,0,none⟩) l5a).trans p4;have q5:=(hbb.cell (p:=⟨g5,1,none⟩) l5a).trans p5;have q6:=(hbb.cell (p:=⟨g5,2,none⟩) l5a).trans p6;have q7:=(hbb.cell (p:=⟨g5,3,none⟩) l5a).trans p7;have l2b:=Nat.lt_of_lt_of_le l2a hbb.size;have l3b:=Nat.lt_of_lt_of_le l3a hbb.size;have l5b:=Nat.lt_of_lt_of_le l5a hbb.size;have B4b:=Aside0.mk (blk_below B4a.out hbb);clear hbb hdb)
   | (go_at_call 76;refine (HS.out _ HBb.out).mono ?_;rintro e wc ⟨rfl,hbc⟩;have HBc:=Aside0.mk (below_step HBb.out hbc);have r0:=(hbc.cell (p:=⟨g2,0,none⟩) l2b).trans q0;have r1:=(hbc.cell (p:=⟨g2,1,none⟩) l2b).trans q1;have r2:=(hbc.cell (p:=⟨g3,0,none⟩) l3b).trans q2;have r3:=(hbc.cell (p:=⟨g3,1,none⟩) l3b).trans q3;have r4:=(hbc.cell (p:=⟨g5,0,none⟩) l5b).trans q4;have r5:=(hbc.cell (p:=⟨g5,1,none⟩) l5b).trans q5;have r6:=(hbc.cell (p:=⟨g5,2,none⟩) l5b).trans q6;have r7:=(hbc.cell (p:=⟨g5,3,none⟩) l5b).trans q7;have B4c:=Aside0.mk (blk_below B4b.out hbc);have d0:=blk_cell B4c.out 0;have d1:=blk_cell B4c.out 1;have z0:=blk_frozen B4c.out 0;have z1:=blk_frozen B4c.out 1;clear hbc))
 go_wp2
 refine bodyPost_ret (results_cell_row rfl _ _ g4 43 #[.bool r.1,.string r.2] (0,0) _ rfl (blk_put (cs:=#[.bool r.1,.string (⟨#[]⟩:ByteArray)]) (blk_put (cs:=#[.bool false,.string (⟨#[]⟩:ByteArray)]) B4c.out 0 _ rfl) 1 _ rfl) Tryz.underlying43 rfl kr_) rfl ?_
 exact ⟨rfl,below_set (below_set HBc.out E4.out) E4.out⟩
theorem integer_number_plus.calls (a0_0:Bool) (a0_1:ByteArray) (a1_0:Bool) (a1_1:ByteArray) (r1:Bool) (r2:ByteArray) (w:World) (hL:LaidW w) (h:integer_number_plus.f a0_0 a0_1 a1_0 a1_1 = some (r1,r2)) :
  Calls Tryz.prog 52 #[.agg #[.bool a0_0,.string a0_1],.agg #[.bool a1_0,.string a1_1]] w fun e w'=>e = .returned (.agg #[.bool r1,.string r2])∧Below w.heap.size w w':=by
 unfold integer_number_plus.f at h
 by_cases hc:(nv a0_1 && nv a1_1) = true∧Sh a0_1∧Sh a1_1
 case neg=>rw [if_neg hc] at h;cases h
 rw [if_pos hc] at h
 obtain ⟨hv,ha,hb⟩:=hc
 obtain ⟨h1,h2⟩:=Bool.and_eq_true_iff.1 hv
 have e1:=num_nat h1
 have e2:=num_nat h2
 rw [← e1] at ha
 rw [← e2] at hb
 have hr:=Option.some.inj h
 have hsum:∀ b:Bool,a0_0 = b→a1_0 = b→∀ W,Below w.heap.size w W→Calls Tryz.prog 76 #[.agg #[.bool b,.string a0_1],.agg #[.bool b,.string a1_1]] W fun e W'=>e = .returned (.agg #[.bool r1,.string r2])∧Below W.heap.size W W':=fun b e0 e3 W hW=>by
  have hs:=sum_eq b ha hb
  have hr':=hr
  rw [e0,e3] at hr'
  rw [e1,e2,hr'] at hs
  exact integer_sum.calls b a0_1 b a1_1 r1 r2 W (hL.below hW) hs
 have hdif:∀ b:Bool,a0_0 = b→a1_0 = (!b)→∀ W,Below w.heap.size w W→Calls Tryz.prog 77 #[.agg #[.bool b,.string a0_1],.agg #[.bool (!b),.string a1_1]] W fun e W'=>e = .returned (.agg #[.bool r1,.string r2])∧Below W.heap.size W W':=fun b e0 e3 W hW=>by
  obtain ⟨k,hs⟩:=(diff_ev b ha hb).rounds
  have hr':=hr
  rw [e0,e3] at hr'
  rw [e1,e2,hr'] at hs
  exact integer_difference.calls k b a0_1 (!b) a1_1 r1 r2 W (hL.below hW) hs
 cases a0_0 with
 | false =>
  cases a1_0 with
  | false=>exact plus_ff a0_1 a1_1 (r1,r2) w (hsum false rfl rfl)
  | true=>exact plus_ft a0_1 a1_1 (r1,r2) w (hdif false rfl rfl)
 | true =>
  cases a1_0 with
  | false=>exact plus_tf a0_1 a1_1 (r1,r2) w (hdif true rfl rfl)
  | true=>exact plus_tt a0_1 a1_1 (r1,r2) w (hsum true rfl rfl)
end Go.Proofs.YtaknchlegjcdhaaGreatDoor.Pr
namespace Go.Proofs.YtaknchlegjcdhaaGreatDoor.Pr
open Go.RowKit Go.Proofs.YtaknchlegjcdhaaGreatDoorW.PrintWords Go.Proofs.YtaknchlegjcdhaaGreatDoorW.PrintLast Go.Proofs.YtaknchlegjcdhaaGreatDoorW.PrintMore
attribute [local go_sem] max2_int min2_int max_two min_two max_three min_three max_four min_four
set_option maxHeartbeats 8000000
set_option maxRecDepth 100000
set_option linter.unusedVariables false
set_option linter.unusedSimpArgs false
def integer_Compare.f (k:Nat) (a0:ByteArray) (a1:ByteArray):Option (Int × Int):=(integer_both.f k a0 a1).bind fun bt252=>((integer_number_opposite.f bt252.2.2.1 bt252.2.2.2.1).bind fun bt259=>((integer_number_plus.f bt252.1 bt252.2.1 bt259.1 bt259.2).bind fun bt261=>((integer_number_sign.f bt261.1 bt261.2).bind fun t263=>(some (t263,bt252.2.2.2.2)))))
theorem integer_Compare.mono:∀ a0 a1 k,LeO (integer_Compare.f k a0 a1) (integer_Compare.f (k + 1) a0 a1):=by intro a0 a1 k;unfold integer_Compare.f;have:=@integer_both.mono;exact mn_
def integer_Compare.T2:Bool × List (List Nat × List Nat):=(true,[([],[]),([],[]),([1],[1]),([0,2,2],[0,2]),([3,3],[3]),([],[]),([4,4,0,1,2,3,4],[4]),([5,6,0,1,2,3,4,5,6],[5])])
def integer_Compare.B2:List Nat:=[0,0,2,7,15,0,31,127]
theorem integer_Compare.tab2:rtab .any (opsOf Tryz.f22 2) = integer_Compare.T2:=by kernel_rfl
theorem integer_Compare.bits2:waitsOk integer_Compare.T2.2 integer_Compare.B2 = true:=by kernel_rfl
theorem integer_Compare.calls (k:Nat) (a0:ByteArray) (a1:ByteArray) (r1:Int) (r2:Int) (w:World) (hL:LaidW w) (h:integer_Compare.f k a0 a1 = some (r1,r2)) :
  Calls Tryz.prog 22 #[.string a0,.string a1] w fun e w'=>e = .returned (.tuple #[.int .i64 r1,.int .i64 r2])∧Below w.heap.size w w':=by
 have hu43:=Tryz.underlying43
 have HB:=Aside0.mk (Below.refl w.heap.size w)
 have HLW:=Aside0.mk hL
 clear hL
 have H:((integer_both.f k a0 a1).bind fun bt252=>((integer_number_opposite.f bt252.2.2.1 bt252.2.2.2.1).bind fun bt259=>((integer_number_plus.f bt252.1 bt252.2.1 bt259.1 bt259.2).bind fun bt261=>((integer_number_sign.f bt261.1 bt261.2).bind fun t263=>(some (t263,bt252.2.2.2.2)))))) = some (r1,r2):=h
 clear h
 obtain ⟨⟨t252,t253,t254,t255,t256⟩,A3,H⟩:=bn_ H
 dsimp only at H
 obtain ⟨⟨t259,t260⟩,A4,H⟩:=bn_ H
 dsimp only at H
 obtain ⟨⟨t261,t262⟩,A5,H⟩:=bn_ H
 dsimp only at H
 obtain ⟨t263,A6,H⟩:=bn_ H
 simp only [Option.some.injEq,Prod.mk.injEq] at H
 obtain ⟨rfl,rfl⟩:=H
 go_enter Tryz.func22,Tryz.ntmps22
 try go_wp2_with (first|((with_reducible refine gate_callee (f:=51) rfl ?_);refine gl_ (some 12) Tryz.func51 #[.string a0,.string a1] (integer_both.calls k a0 a1 t252 t253 t254 t255 t256 _ A3.out) ?_;clear HB;intro w7 hb HB;clear hb)|((with_reducible refine gate_dst (N:=6) rfl ?_);refine bv_ #[.bool false,.string (⟨#[]⟩:ByteArray)] 43 ?_;clear HB;intro gb257 hg w8 BK257 GE257 hb HB;clear hb hg)|((with_reducible refine gate_dst (N:=7) rfl ?_);refine bv_ #[.bool false,.string (⟨#[]⟩:ByteArray)] 43 ?_;clear HB;intro gb258 hg w9 BK258 GE258 hb HB;have x_:=ol_ BK257 hg hb;clear BK257;obtain ⟨BK257,NB257_258,NB258_257⟩:=x_;clear hb hg;have hnb10:=NB257_258.out;have hnc10:=NB258_257.out;obtain ⟨hcz11_0,hcz11_1,hfz11_0,hfz11_1⟩:=c2_ BK257;obtain ⟨hcz12_0,hcz12_1,hfz12_0,hfz12_1⟩:=c2_ BK258))
 generalize hw_:((((w9.setCell ⟨gb257,0,none⟩ (.bool t252)).setCell ⟨gb257,1,none⟩ (.string t253)).setCell ⟨gb258,0,none⟩ (.bool t254)).setCell ⟨gb258,1,none⟩ (.string t255)) = w13
 replace BK257:Aside0 (w13.heap[gb257]? = some (.cells #[.bool t252,.string t253] 43 (0,0))):=gk_ hw_
 replace BK258:Aside0 (w13.heap[gb258]? = some (.cells #[.bool t254,.string t255] 43 (0,0))):=gk_ hw_
 replace HB:=gb_ hw_
 clear hw_
 replace BK257:=dr_ BK257
 replace BK258:=dr_ BK258
 replace HB:=db_ HB
 refine start_ (n:=8) (S:=fun w'=>w'.cell? ⟨gb257,0,none⟩ = some (.bool t252)∧w'.cell? ⟨gb257,1,none⟩ = some (.string t253)∧w'.cell? ⟨gb258,0,none⟩ = some (.bool t254)∧w'.cell? ⟨gb258,1,none⟩ = some (.string t255)) (ds:=[]) #[false,false,false,false,false,false,false,false] kr_ rfl rfl hc_ (fun hHeld=>?_);refine with_tabW integer_Compare.tab2 integer_Compare.bits2 (fun HT_ HW_=>?_)
 generalize w13.drew = w14 at BK257 BK258 HB hHeld ⊢
 refine pu_ 5 (some 21) #[false,false,false,false,false,true,false,false] ?_
 refine tk4_ 0 (some 16) #[true,false,false,false,false,true,false,false] hHeld ?_
 refine tk4_ 1 (some 17) #[true,true,false,false,false,true,false,false] hHeld ?_
 refine oc_ 2 (some 18) #[true,true,true,false,false,true,false,false] Tryz.func45 #[.agg #[.bool t254,.string t255]] (fun K hK=>?_)
 with_reducible refine (integer_number_opposite.calls t254 t255 t259 t260 _ A4.out).mono ?_
 rintro e w15 ⟨rfl,hb⟩
 refine ⟨_,rfl,?_⟩
 replace BK257:=bb_ BK257 hb
 replace BK258:=bb_ BK258 hb
 replace HB:=bs_ hb
 (try clear hb)
 refine hk_ hK (fun hHeld=>?_);clear hK K
 refine oc_ 3 (some 19) #[true,true,true,true,false,true,false,false] Tryz.func52 #[.agg #[.bool t252,.string t253],.agg #[.bool t259,.string t260]] (fun K hK=>?_)
 with_reducible refine (integer_number_plus.calls t252 t253 t259 t260 t261 t262 _ (HLW.out.below bx_) A5.out).mono ?_
 rintro e w16 ⟨rfl,hb⟩
 refine ⟨_,rfl,?_⟩
 replace BK257:=bb_ BK257 hb
 replace BK258:=bb_ BK258 hb
 replace HB:=bs_ hb
 (try clear hb)
 refine hk_ hK (fun hHeld=>?_);clear hK K
 refine oc_ 4 (some 20) #[true,true,true,true,true,true,false,false] Tryz.func40 #[.agg #[.bool t261,.string t262]] (fun K hK=>?_)
 with_reducible refine (integer_number_sign.calls t261 t262 t263 _ A6.out).mono ?_
 rintro e w17 ⟨rfl,hb⟩
 refine ⟨_,rfl,?_⟩
 replace BK257:=bb_ BK257 hb
 replace BK258:=bb_ BK258 hb
 replace HB:=bs_ hb
 (try clear hb)
 refine hk_ hK (fun hHeld=>?_);clear hK K
 refine pu_ 6 (some 4) #[true,true,true,true,true,true,true,false] ?_
 refine pu_ 7 (some 5) #[true,true,true,true,true,true,true,true] ?_
 refine done_ (done_of HT_.out kr_) ?_
 try go_wp2
 go_ret2
 exact ⟨rf_,bx_⟩
end Go.Proofs.YtaknchlegjcdhaaGreatDoor.Pr
namespace Go.Proofs.YtaknchlegjcdhaaGreatDoor.Pr
open Go.RowKit Go.Proofs.YtaknchlegjcdhaaGreatDoorW.PrintWords Go.Proofs.YtaknchlegjcdhaaGreatDoorW.PrintLast Go.Proofs.YtaknchlegjcdhaaGreatDoorW.PrintMore
attribute [local go_sem] max2_int min2_int max_two min_two max_three min_three max_four min_four
set_option maxHeartbeats 8000000
set_option maxRecDepth 100000
set_option linter.unusedVariables false
set_option linter.unusedSimpArgs false
def integer_Add.f (k:Nat) (a0:ByteArray) (a1:ByteArray):Option (ByteArray × Int):=(integer_both.f k a0 a1).bind fun bt264=>(if bt264.2.2.2.2 = 0 then ((integer_number_plus.f bt264.1 bt264.2.1 bt264.2.2.1 bt264.2.2.2.1).bind fun bt271=>((integer_number_text.f bt271.1 bt271.2).bind fun t273=>(some (t273,0)))) else (some ((⟨#[]⟩:ByteArray),bt264.2.2.2.2)))
theorem integer_Add.mono:∀ a0 a1 k,LeO (integer_Add.f k a0 a1) (integer_Add.f (k + 1) a0 a1):=by intro a0 a1 k;unfold integer_Add.f;have:=@integer_both.mono;exact mn_
theorem integer_Add.calls (k:Nat) (a0:ByteArray) (a1:ByteArray) (r1:ByteArray) (r2:Int) (w:World) (hL:LaidW w) (h:integer_Add.f k a0 a1 = some (r1,r2)) :
  Calls Tryz.prog 24 #[.string a0,.string a1] w fun e w'=>e = .returned (.tuple #[.string r1,.int .i64 r2])∧Below w.heap.size w w':=by
 have hu43:=Tryz.underlying43
 have HB:=Aside0.mk (Below.refl w.heap.size w)
 have HLW:=Aside0.mk hL
 clear hL
 have H:((integer_both.f k a0 a1).bind fun bt264=>(if bt264.2.2.2.2 = 0 then ((integer_number_plus.f bt264.1 bt264.2.1 bt264.2.2.1 bt264.2.2.2.1).bind fun bt271=>((integer_number_text.f bt271.1 bt271.2).bind fun t273=>(some (t273,0)))) else (some ((⟨#[]⟩:ByteArray),bt264.2.2.2.2)))) = some (r1,r2):=h
 clear h
 obtain ⟨⟨t264,t265,t266,t267,t268⟩,A3,H⟩:=bn_ H
 dsimp only at H
 by_cases c4:t268 = 0
 ·rw [if_pos c4] at H
  have c4b0:(t268 == 0) = true:=beq_iff_eq.mpr c4
  have c4b1:(t268 != 0) = false:=bne_eq_false_iff_eq.mpr c4
  clear c4
  obtain ⟨⟨t271,t272⟩,A5,H⟩:=bn_ H
  dsimp only at H
  obtain ⟨t273,A6,H⟩:=bn_ H
  simp only [Option.some.injEq,Prod.mk.injEq] at H
  obtain ⟨rfl,rfl⟩:=H
  go_enter Tryz.func24,Tryz.ntmps24
  go_wp2_with (first|((with_reducible refine gate_callee (f:=51) rfl ?_);refine gl_ (some 12) Tryz.func51 #[.string a0,.string a1] (integer_both.calls k a0 a1 t264 t265 t266 t267 t268 _ A3.out) ?_;clear HB;intro w7 hb HB;clear hb)|((with_reducible refine gate_dst (N:=6) rfl ?_);refine bv_ #[.bool false,.string (⟨#[]⟩:ByteArray)] 43 ?_;clear HB;intro gb269 hg w8 BK269 GE269 hb HB;clear hb hg)|((with_reducible refine gate_dst (N:=7) rfl ?_);refine bv_ #[.bool false,.string (⟨#[]⟩:ByteArray)] 43 ?_;clear HB;intro gb270 hg w9 BK270 GE270 hb HB;have x_:=ol_ BK269 hg hb;clear BK269;obtain ⟨BK269,NB269_270,NB270_269⟩:=x_;clear hb hg;have hnb10:=NB269_270.out;have hnc10:=NB270_269.out;obtain ⟨hcz11_0,hcz11_1,hfz11_0,hfz11_1⟩:=c2_ BK269;obtain ⟨hcz12_0,hcz12_1,hfz12_0,hfz12_1⟩:=c2_ BK270)|((with_reducible refine gate_callee (f:=52) rfl ?_);refine gm_ (some 21) Tryz.func52 #[.agg #[.bool t264,.string t265],.agg #[.bool t266,.string t267]] ?_;(with_reducible refine (integer_number_plus.calls t264 t265 t266 t267 t271 t272 _ (HLW.out.below bx_) A5.out).mono ?_);rintro e w13 ⟨rfl,hb⟩;refine ⟨_,rfl,?_⟩;replace BK269:=Aside0.mk (blk_below (g:=gb269) (o:=.cells #[.bool t264,.string t265] 43 (0,0)) bk_ hb);replace BK270:=Aside0.mk (blk_below (g:=gb270) (o:=.cells #[.bool t266,.string t267] 43 (0,0)) bk_ hb);replace HB:=bs_ hb;(try clear hb))|((with_reducible refine gate_callee (f:=46) rfl ?_);refine gl_ (some 22) Tryz.func46 #[.agg #[.bool t271,.string t272]] (integer_number_text.calls t271 t272 t273 _ A6.out) ?_;clear HB;intro w14 hb HB;replace BK269:=bb_ BK269 hb;replace BK270:=bb_ BK270 hb;clear hb))
  go_ret2
  exact ⟨rf_,bx_⟩
 ·rw [if_neg c4] at H
  have c4b0:(t268 == 0) = false:=beq_eq_false_iff_ne.mpr c4
  have c4b1:(t268 != 0) = true:=bne_iff_ne.mpr c4
  simp only [Option.some.injEq,Prod.mk.injEq] at H
  obtain ⟨rfl,rfl⟩:=H
  go_enter Tryz.func24,Tryz.ntmps24
  go_wp2_with (first|((with_reducible refine gate_callee (f:=51) rfl ?_);refine gl_ (some 12) Tryz.func51 #[.string a0,.string a1] (integer_both.calls k a0 a1 t264 t265 t266 t267 t268 _ A3.out) ?_;clear HB;intro w15 hb HB;clear hb)|((with_reducible refine gate_dst (N:=6) rfl ?_);refine bv_ #[.bool false,.string (⟨#[]⟩:ByteArray)] 43 ?_;clear HB;intro gb269 hg w16 BK269 GE269 hb HB;clear hb hg)|((with_reducible refine gate_dst (N:=7) rfl ?_);refine bv_ #[.bool false,.string (⟨#[]⟩:ByteArray)] 43 ?_;clear HB;intro gb270 hg w17 BK270 GE270 hb HB;have x_:=ol_ BK269 hg hb;clear BK269;obtain ⟨BK269,NB269_270,NB270_269⟩:=x_;clear hb hg;have hnb18:=NB269_270.out;have hnc18:=NB270_269.out;obtain ⟨hcz19_0,hcz19_1,hfz19_0,hfz19_1⟩:=c2_ BK269;obtain ⟨hcz20_0,hcz20_1,hfz20_0,hfz20_1⟩:=c2_ BK270))
  go_ret2
  exact ⟨rf_,bx_⟩
end Go.Proofs.YtaknchlegjcdhaaGreatDoor.Pr
namespace Go.Proofs.YtaknchlegjcdhaaGreatDoor.Pr
open Go.RowKit Go.Proofs.YtaknchlegjcdhaaGreatDoorW.PrintWords Go.Proofs.YtaknchlegjcdhaaGreatDoorW.PrintLast Go.Proofs.YtaknchlegjcdhaaGreatDoorW.PrintMore
attribute [local go_sem] max2_int min2_int max_two min_two max_three min_three max_four min_four
set_option maxHeartbeats 8000000
set_option maxRecDepth 100000
set_option linter.unusedVariables false
set_option linter.unusedSimpArgs false
def integer_Sub.f (k:Nat) (a0:ByteArray) (a1:ByteArray):Option (ByteArray × Int):=(integer_both.f k a0 a1).bind fun bt274=>(if bt274.2.2.2.2 = 0 then ((integer_number_opposite.f bt274.2.2.1 bt274.2.2.2.1).bind fun bt281=>((integer_number_plus.f bt274.1 bt274.2.1 bt281.1 bt281.2).bind fun bt283=>((integer_number_text.f bt283.1 bt283.2).bind fun t285=>(some (t285,0))))) else (some ((⟨#[]⟩:ByteArray),bt274.2.2.2.2)))
theorem integer_Sub.mono:∀ a0 a1 k,LeO (integer_Sub.f k a0 a1) (integer_Sub.f (k + 1) a0 a1):=by intro a0 a1 k;unfold integer_Sub.f;have:=@integer_both.mono;exact mn_
theorem integer_Sub.calls (k:Nat) (a0:ByteArray) (a1:ByteArray) (r1:ByteArray) (r2:Int) (w:World) (hL:LaidW w) (h:integer_Sub.f k a0 a1 = some (r1,r2)) :
  Calls Tryz.prog 26 #[.string a0,.string a1] w fun e w'=>e = .returned (.tuple #[.string r1,.int .i64 r2])∧Below w.heap.size w w':=by
 have hu43:=Tryz.underlying43
 have HB:=Aside0.mk (Below.refl w.heap.size w)
 have HLW:=Aside0.mk hL
 clear hL
 have H:((integer_both.f k a0 a1).bind fun bt274=>(if bt274.2.2.2.2 = 0 then ((integer_number_opposite.f bt274.2.2.1 bt274.2.2.2.1).bind fun bt281=>((integer_number_plus.f bt274.1 bt274.2.1 bt281.1 bt281.2).bind fun bt283=>((integer_number_text.f bt283.1 bt283.2).bind fun t285=>(some (t285,0))))) else (some ((⟨#[]⟩:ByteArray),bt274.2.2.2.2)))) = some (r1,r2):=h
 clear h
 obtain ⟨⟨t274,t275,t276,t277,t278⟩,A3,H⟩:=bn_ H
 dsimp only at H
 by_cases c4:t278 = 0
 ·rw [if_pos c4] at H
  have c4b0:(t278 == 0) = true:=beq_iff_eq.mpr c4
  have c4b1:(t278 != 0) = false:=bne_eq_false_iff_eq.mpr c4
  clear c4
  obtain ⟨⟨t281,t282⟩,A5,H⟩:=bn_ H
  dsimp only at H
  obtain ⟨⟨t283,t284⟩,A6,H⟩:=bn_ H
  dsimp only at H
  obtain ⟨t285,A7,H⟩:=bn_ H
  simp only [Option.some.injEq,Prod.mk.injEq] at H
  obtain ⟨rfl,rfl⟩:=H
  go_enter Tryz.func26,Tryz.ntmps26
  try go_wp2_with (first|((with_reducible refine gate_callee (f:=51) rfl ?_);refine gl_ (some 12) Tryz.func51 #[.string a0,.string a1] (integer_both.calls k a0 a1 t274 t275 t276 t277 t278 _ A3.out) ?_;clear HB;intro w8 hb HB;clear hb)|((with_reducible refine gate_dst (N:=6) rfl ?_);refine bv_ #[.bool false,.string (⟨#[]⟩:ByteArray)] 43 ?_;clear HB;intro gb279 hg w9 BK279 GE279 hb HB;clear hb hg)|((with_reducible refine gate_dst (N:=7) rfl ?_);refine bv_ #[.bool false,.string (⟨#[]⟩:ByteArray)] 43 ?_;clear HB;intro gb280 hg w10 BK280 GE280 hb HB;have x_:=ol_ BK279 hg hb;clear BK279;obtain ⟨BK279,NB279_280,NB280_279⟩:=x_;clear hb hg;have hnb11:=NB279_280.out;have hnc11:=NB280_279.out;obtain ⟨hcz12_0,hcz12_1,hfz12_0,hfz12_1⟩:=c2_ BK279;obtain ⟨hcz13_0,hcz13_1,hfz13_0,hfz13_1⟩:=c2_ BK280))
  generalize hw_:((((w10.setCell ⟨gb279,0,none⟩ (.bool t274)).setCell ⟨gb279,1,none⟩ (.string t275)).setCell ⟨gb280,0,none⟩ (.bool t276)).setCell ⟨gb280,1,none⟩ (.string t277)) = w14
  replace BK279:Aside0 (w14.heap[gb279]? = some (.cells #[.bool t274,.string t275] 43 (0,0))):=gk_ hw_
  replace BK280:Aside0 (w14.heap[gb280]? = some (.cells #[.bool t276,.string t277] 43 (0,0))):=gk_ hw_
  replace HB:=gb_ hw_
  clear hw_
  replace BK279:=dr_ BK279
  replace BK280:=dr_ BK280
  replace HB:=db_ HB
  refine start_ (n:=7) (S:=fun w'=>w'.cell? ⟨gb279,0,none⟩ = some (.bool t274)∧w'.cell? ⟨gb279,1,none⟩ = some (.string t275)∧w'.cell? ⟨gb280,0,none⟩ = some (.bool t276)∧w'.cell? ⟨gb280,1,none⟩ = some (.string t277)) (ds:=[]) #[false,false,false,false,false,false,false] kr_ rfl rfl hc_ (fun hHeld=>?_)
  generalize w14.drew = w15 at BK279 BK280 HB hHeld ⊢
  refine tk4_ 0 (some 19) #[true,false,false,false,false,false,false] hHeld ?_
  refine tk4_ 1 (some 20) #[true,true,false,false,false,false,false] hHeld ?_
  refine oc_ 2 (some 21) #[true,true,true,false,false,false,false] Tryz.func45 #[.agg #[.bool t276,.string t277]] (fun K hK=>?_)
  with_reducible refine (integer_number_opposite.calls t276 t277 t281 t282 _ A5.out).mono ?_
  rintro e w16 ⟨rfl,hb⟩
  refine ⟨_,rfl,?_⟩
  replace BK279:=bb_ BK279 hb
  replace BK280:=bb_ BK280 hb
  replace HB:=bs_ hb
  (try clear hb)
  refine hk_ hK (fun hHeld=>?_);clear hK K
  refine oc_ 3 (some 22) #[true,true,true,true,false,false,false] Tryz.func52 #[.agg #[.bool t274,.string t275],.agg #[.bool t281,.string t282]] (fun K hK=>?_)
  with_reducible refine (integer_number_plus.calls t274 t275 t281 t282 t283 t284 _ (HLW.out.below bx_) A6.out).mono ?_
  rintro e w17 ⟨rfl,hb⟩
  refine ⟨_,rfl,?_⟩
  replace BK279:=bb_ BK279 hb
  replace BK280:=bb_ BK280 hb
  replace HB:=bs_ hb
  (try clear hb)
  refine hk_ hK (fun hHeld=>?_);clear hK K
  refine oc_ 4 (some 23) #[true,true,true,true,true,false,false] Tryz.func46 #[.agg #[.bool t283,.string t284]] (fun K hK=>?_)
  with_reducible refine (integer_number_text.calls t283 t284 t285 _ A7.out).mono ?_
  rintro e w18 ⟨rfl,hb⟩
  refine ⟨_,rfl,?_⟩
  replace BK279:=bb_ BK279 hb
  replace BK280:=bb_ BK280 hb
  replace HB:=bs_ hb
  (try clear hb)
  refine hk_ hK (fun hHeld=>?_);clear hK K
  refine pu_ 5 (some 4) #[true,true,true,true,true,true,false] ?_
  refine pu_ 6 (some 5) #[true,true,true,true,true,true,true] ?_
  refine done_ kr_ ?_
  try go_wp2
  go_ret2
  exact ⟨rf_,bx_⟩
 ·rw [if_neg c4] at H
  have c4b0:(t278 == 0) = false:=beq_eq_false_iff_ne.mpr c4
  have c4b1:(t278 != 0) = true:=bne_iff_ne.mpr c4
  simp only [Option.some.injEq,Prod.mk.injEq] at H
  obtain ⟨rfl,rfl⟩:=H
  go_enter Tryz.func26,Tryz.ntmps26
  go_wp2_with (first|((with_reducible refine gate_callee (f:=51) rfl ?_);refine gl_ (some 12) Tryz.func51 #[.string a0,.string a1] (integer_both.calls k a0 a1 t274 t275 t276 t277 t278 _ A3.out) ?_;clear HB;intro w19 hb HB;clear hb)|((with_reducible refine gate_dst (N:=6) rfl ?_);refine bv_ #[.bool false,.string (⟨#[]⟩:ByteArray)] 43 ?_;clear HB;intro gb279 hg w20 BK279 GE279 hb HB;clear hb hg)|((with_reducible refine gate_dst (N:=7) rfl ?_);refine bv_ #[.bool false,.string (⟨#[]⟩:ByteArray)] 43 ?_;clear HB;intro gb280 hg w21 BK280 GE280 hb HB;have x_:=ol_ BK279 hg hb;clear BK279;obtain ⟨BK279,NB279_280,NB280_279⟩:=x_;clear hb hg;have hnb22:=NB279_280.out;have hnc22:=NB280_279.out;obtain ⟨hcz23_0,hcz23_1,hfz23_0,hfz23_1⟩:=c2_ BK279;obtain ⟨hcz24_0,hcz24_1,hfz24_0,hfz24_1⟩:=c2_ BK280))
  go_ret2
  exact ⟨rf_,bx_⟩
end Go.Proofs.YtaknchlegjcdhaaGreatDoor.Pr
namespace Go.Proofs.YtaknchlegjcdhaaGreatDoor.Pr
open Go.RowKit Go.Proofs.YtaknchlegjcdhaaGreatDoorW.PrintWords Go.Proofs.YtaknchlegjcdhaaGreatDoorW.PrintLast Go.Proofs.YtaknchlegjcdhaaGreatDoorW.PrintMore
attribute [local go_sem] max2_int min2_int max_two min_two max_three min_three max_four min_four
set_option maxHeartbeats 8000000
set_option maxRecDepth 100000
set_option linter.unusedVariables false
set_option linter.unusedSimpArgs false
def integer_number_times.f (a0_0:Bool) (a0_1:ByteArray) (a1_0:Bool) (a1_1:ByteArray):Option (Bool × ByteArray):=(natural_Mul.f a0_1 a1_1).bind fun bt289=>((integer_with.f (a0_0 != a1_0) bt289.1).bind fun bt291=>(some (bt291.1,bt291.2)))
theorem integer_number_times.calls (a0_0:Bool) (a0_1:ByteArray) (a1_0:Bool) (a1_1:ByteArray) (r1:Bool) (r2:ByteArray) (w:World) (hL:LaidW w) (h:integer_number_times.f a0_0 a0_1 a1_0 a1_1 = some (r1,r2)) :
  Calls Tryz.prog 57 #[.agg #[.bool a0_0,.string a0_1],.agg #[.bool a1_0,.string a1_1]] w fun e w'=>e = .returned (.agg #[.bool r1,.string r2])∧Below w.heap.size w w':=by
 have hu43:=Tryz.underlying43
 have HB:=Aside0.mk (Below.refl w.heap.size w)
 have HLW:=Aside0.mk hL
 clear hL
 have H:((natural_Mul.f a0_1 a1_1).bind fun bt289=>((integer_with.f (a0_0 != a1_0) bt289.1).bind fun bt291=>(some (bt291.1,bt291.2)))) = some (r1,r2):=h
 clear h
 obtain ⟨⟨t289,t290⟩,A3,H⟩:=bn_ H
 dsimp only at H
 obtain ⟨⟨t291,t292⟩,A4,H⟩:=bn_ H
 dsimp only at H
 simp only [Option.some.injEq,Prod.mk.injEq] at H
 obtain ⟨rfl,rfl⟩:=H
 go_enter Tryz.func57,Tryz.ntmps57
 go_wp2_with (first|((with_reducible refine gate_dst (N:=2) rfl ?_);refine bv_ #[.bool a0_0,.string a0_1] 43 ?_;clear HB;intro gb286 hg w5 BK286 GE286 hb HB;clear hb hg)|((with_reducible refine gate_dst (N:=3) rfl ?_);refine bv_ #[.bool a1_0,.string a1_1] 43 ?_;clear HB;intro gb287 hg w6 BK287 GE287 hb HB;have x_:=ol_ BK286 hg hb;clear BK286;obtain ⟨BK286,NB286_287,NB287_286⟩:=x_;clear hb hg)|((with_reducible refine gate_dst (N:=4) rfl ?_);refine bv_ #[.bool false,.string (⟨#[]⟩:ByteArray)] 43 ?_;clear HB;intro gb288 hg w7 BK288 GE288 hb HB;have x_:=ol_ BK286 hg hb;clear BK286;obtain ⟨BK286,NB286_288,NB288_286⟩:=x_;have x_:=ol_ BK287 hg hb;clear BK287;obtain ⟨BK287,NB287_288,NB288_287⟩:=x_;clear hb hg;have hnb8:=NB286_287.out;have hnc8:=NB287_286.out;have hnb9:=NB286_288.out;have hnc9:=NB288_286.out;obtain ⟨hcz10_0,hcz10_1,hfz10_0,hfz10_1⟩:=c2_ BK286;have hnb11:=NB287_288.out;have hnc11:=NB288_287.out;obtain ⟨hcz12_0,hcz12_1,hfz12_0,hfz12_1⟩:=c2_ BK287)|((with_reducible refine gate_callee (f:=82) rfl ?_);refine gl_ (some 12) Tryz.func82 #[.string a0_1,.string a1_1] (natural_Mul.calls a0_1 a1_1 t289 t290 _ (HLW.out.below bx_) A3.out) ?_;clear HB;intro w13 hb HB;replace BK286:=bb_ BK286 hb;replace BK287:=bb_ BK287 hb;replace BK288:=bb_ BK288 hb;clear hb;obtain ⟨hcz14_0,hcz14_1,hfz14_0,hfz14_1⟩:=c2_ BK286;obtain ⟨hcz15_0,hcz15_1,hfz15_0,hfz15_1⟩:=c2_ BK287)|((with_reducible refine gate_callee (f:=62) rfl ?_);refine gl_ (some 21) Tryz.func62 #[.bool (a0_0 != a1_0),.string t289] (integer_with.calls (a0_0 != a1_0) t289 t291 t292 _ A4.out) ?_;clear HB;intro w16 hb HB;replace BK286:=bb_ BK286 hb;replace BK287:=bb_ BK287 hb;replace BK288:=bb_ BK288 hb;clear hb;obtain ⟨hcz17_0,hcz17_1,hfz17_0,hfz17_1⟩:=c2_ BK288))
 refine bodyPost_ret (results_cell_row rfl _ _ gb288 43 #[.bool t291,.string t292] (0,0) _ rfl bk_ Tryz.underlying43 rfl kr_) rfl ?_
 exact ⟨rf_,bx_⟩
end Go.Proofs.YtaknchlegjcdhaaGreatDoor.Pr
namespace Go.Proofs.YtaknchlegjcdhaaGreatDoor.Pr
open Go.RowKit Go.Proofs.YtaknchlegjcdhaaGreatDoorW.PrintWords Go.Proofs.YtaknchlegjcdhaaGreatDoorW.PrintLast Go.Proofs.YtaknchlegjcdhaaGreatDoorW.PrintMore
attribute [local go_sem] max2_int min2_int max_two min_two max_three min_three max_four min_four
set_option maxHeartbeats 8000000
set_option maxRecDepth 100000
set_option linter.unusedVariables false
set_option linter.unusedSimpArgs false
def integer_Mul.f (k:Nat) (a0:ByteArray) (a1:ByteArray):Option (ByteArray × Int):=(integer_both.f k a0 a1).bind fun bt293=>(if bt293.2.2.2.2 = 0 then ((integer_number_times.f bt293.1 bt293.2.1 bt293.2.2.1 bt293.2.2.2.1).bind fun bt300=>((integer_number_text.f bt300.1 bt300.2).bind fun t302=>(some (t302,0)))) else (some ((⟨#[]⟩:ByteArray),bt293.2.2.2.2)))
theorem integer_Mul.mono:∀ a0 a1 k,LeO (integer_Mul.f k a0 a1) (integer_Mul.f (k + 1) a0 a1):=by intro a0 a1 k;unfold integer_Mul.f;have:=@integer_both.mono;exact mn_
theorem integer_Mul.calls (k:Nat) (a0:ByteArray) (a1:ByteArray) (r1:ByteArray) (r2:Int) (w:World) (hL:LaidW w) (h:integer_Mul.f k a0 a1 = some (r1,r2)) :
  Calls Tryz.prog 28 #[.string a0,.string a1] w fun e w'=>e = .returned (.tuple #[.string r1,.int .i64 r2])∧Below w.heap.size w w':=by
 have hu43:=Tryz.underlying43
 have HB:=Aside0.mk (Below.refl w.heap.size w)
 have HLW:=Aside0.mk hL
 clear hL
 have H:((integer_both.f k a0 a1).bind fun bt293=>(if bt293.2.2.2.2 = 0 then ((integer_number_times.f bt293.1 bt293.2.1 bt293.2.2.1 bt293.2.2.2.1).bind fun bt300=>((integer_number_text.f bt300.1 bt300.2).bind fun t302=>(some (t302,0)))) else (some ((⟨#[]⟩:ByteArray),bt293.2.2.2.2)))) = some (r1,r2):=h
 clear h
 obtain ⟨⟨t293,t294,t295,t296,t297⟩,A3,H⟩:=bn_ H
 dsimp only at H
 by_cases c4:t297 = 0
 ·rw [if_pos c4] at H
  have c4b0:(t297 == 0) = true:=beq_iff_eq.mpr c4
  have c4b1:(t297 != 0) = false:=bne_eq_false_iff_eq.mpr c4
  clear c4
  obtain ⟨⟨t300,t301⟩,A5,H⟩:=bn_ H
  dsimp only at H
  obtain ⟨t302,A6,H⟩:=bn_ H
  simp only [Option.some.injEq,Prod.mk.injEq] at H
  obtain ⟨rfl,rfl⟩:=H
  go_enter Tryz.func28,Tryz.ntmps28
  go_wp2_with (first|((with_reducible refine gate_callee (f:=51) rfl ?_);refine gl_ (some 12) Tryz.func51 #[.string a0,.string a1] (integer_both.calls k a0 a1 t293 t294 t295 t296 t297 _ A3.out) ?_;clear HB;intro w7 hb HB;clear hb)|((with_reducible refine gate_dst (N:=6) rfl ?_);refine bv_ #[.bool false,.string (⟨#[]⟩:ByteArray)] 43 ?_;clear HB;intro gb298 hg w8 BK298 GE298 hb HB;clear hb hg)|((with_reducible refine gate_dst (N:=7) rfl ?_);refine bv_ #[.bool false,.string (⟨#[]⟩:ByteArray)] 43 ?_;clear HB;intro gb299 hg w9 BK299 GE299 hb HB;have x_:=ol_ BK298 hg hb;clear BK298;obtain ⟨BK298,NB298_299,NB299_298⟩:=x_;clear hb hg;have hnb10:=NB298_299.out;have hnc10:=NB299_298.out;obtain ⟨hcz11_0,hcz11_1,hfz11_0,hfz11_1⟩:=c2_ BK298;obtain ⟨hcz12_0,hcz12_1,hfz12_0,hfz12_1⟩:=c2_ BK299)|((with_reducible refine gate_callee (f:=57) rfl ?_);refine gm_ (some 21) Tryz.func57 #[.agg #[.bool t293,.string t294],.agg #[.bool t295,.string t296]] ?_;(with_reducible refine (integer_number_times.calls t293 t294 t295 t296 t300 t301 _ (HLW.out.below bx_) A5.out).mono ?_);rintro e w13 ⟨rfl,hb⟩;refine ⟨_,rfl,?_⟩;replace BK298:=Aside0.mk (blk_below (g:=gb298) (o:=.cells #[.bool t293,.string t294] 43 (0,0)) bk_ hb);replace BK299:=Aside0.mk (blk_below (g:=gb299) (o:=.cells #[.bool t295,.string t296] 43 (0,0)) bk_ hb);replace HB:=bs_ hb;(try clear hb))|((with_reducible refine gate_callee (f:=46) rfl ?_);refine gl_ (some 22) Tryz.func46 #[.agg #[.bool t300,.string t301]] (integer_number_text.calls t300 t301 t302 _ A6.out) ?_;clear HB;intro w14 hb HB;replace BK298:=bb_ BK298 hb;replace BK299:=bb_ BK299 hb;clear hb))
  go_ret2
  exact ⟨rf_,bx_⟩
 ·rw [if_neg c4] at H
  have c4b0:(t297 == 0) = false:=beq_eq_false_iff_ne.mpr c4
  have c4b1:(t297 != 0) = true:=bne_iff_ne.mpr c4
  simp only [Option.some.injEq,Prod.mk.injEq] at H
  obtain ⟨rfl,rfl⟩:=H
  go_enter Tryz.func28,Tryz.ntmps28
  go_wp2_with (first|((with_reducible refine gate_callee (f:=51) rfl ?_);refine gl_ (some 12) Tryz.func51 #[.string a0,.string a1] (integer_both.calls k a0 a1 t293 t294 t295 t296 t297 _ A3.out) ?_;clear HB;intro w15 hb HB;clear hb)|((with_reducible refine gate_dst (N:=6) rfl ?_);refine bv_ #[.bool false,.string (⟨#[]⟩:ByteArray)] 43 ?_;clear HB;intro gb298 hg w16 BK298 GE298 hb HB;clear hb hg)|((with_reducible refine gate_dst (N:=7) rfl ?_);refine bv_ #[.bool false,.string (⟨#[]⟩:ByteArray)] 43 ?_;clear HB;intro gb299 hg w17 BK299 GE299 hb HB;have x_:=ol_ BK298 hg hb;clear BK298;obtain ⟨BK298,NB298_299,NB299_298⟩:=x_;clear hb hg;have hnb18:=NB298_299.out;have hnc18:=NB299_298.out;obtain ⟨hcz19_0,hcz19_1,hfz19_0,hfz19_1⟩:=c2_ BK298;obtain ⟨hcz20_0,hcz20_1,hfz20_0,hfz20_1⟩:=c2_ BK299))
  go_ret2
  exact ⟨rf_,bx_⟩
end Go.Proofs.YtaknchlegjcdhaaGreatDoor.Pr
namespace Go.Proofs.YtaknchlegjcdhaaGreatDoor.Pr
open Go.RowKit Go.Proofs.YtaknchlegjcdhaaGreatDoorW.PrintWords Go.Proofs.YtaknchlegjcdhaaGreatDoorW.PrintLast Go.Proofs.YtaknchlegjcdhaaGreatDoorW.PrintMore
attribute [local go_sem] max2_int min2_int max_two min_two max_three min_three max_four min_four
set_option maxHeartbeats 8000000
set_option maxRecDepth 100000
set_option linter.unusedVariables false
set_option linter.unusedSimpArgs false
def integer_number_divide.j0:Nat→ByteArray→ByteArray→Bool→Bool→ByteArray→Bool→ByteArray→Option (Bool × ByteArray × Bool × ByteArray)
 | 0,_,_,_,_,_,_,_=>none
 | k + 1,x6,x7,x23,x350000,x350001,x351000,x351001=>if x23 = true then ((natural_Add.f x6 (⟨#[49]⟩:ByteArray)).bind fun bt356=>((natural_Sub.f x351001 x7).bind fun bt358=>((integer_with.f (x350000 != x351000) bt356.1).bind fun bt360=>((integer_with.f false bt358.1).bind fun bt362=>(some (bt360.1,bt360.2,bt362.1,bt362.2)))))) else ((integer_with.f (x350000 != x351000) x6).bind fun bt364=>((integer_with.f false x7).bind fun bt366=>(some (bt364.1,bt364.2,bt366.1,bt366.2))))
def integer_number_divide.f (k:Nat) (a0_0:Bool) (a0_1:ByteArray) (a1_0:Bool) (a1_1:ByteArray):Option (Bool × ByteArray × Bool × ByteArray):=(natural_DivMod.f k a0_1 a1_1).bind fun bt353=>(if a0_0 = true then (integer_number_divide.j0 k bt353.1 bt353.2.1 (bt353.2.1.toList != ([48]:List UInt8)) a0_0 a0_1 a1_0 a1_1) else (integer_number_divide.j0 k bt353.1 bt353.2.1 false a0_0 a0_1 a1_0 a1_1))
theorem integer_number_divide.mono_l:∀ k,(∀ y0 y1 y2 y3 y4 y5 y6,LeO (integer_number_divide.j0 k y0 y1 y2 y3 y4 y5 y6) (integer_number_divide.j0 (k + 1) y0 y1 y2 y3 y4 y5 y6))
 | 0=>fun _ _ _ _ _ _ _ r h=>by simp [integer_number_divide.j0] at h
 | k + 1=>by
  have ih0:=integer_number_divide.mono_l k
  ·intro y0 y1 y2 y3 y4 y5 y6
   unfold integer_number_divide.j0
   repeat' first
   | (with_reducible exact ih0 _ _ _ _ _ _ _)
   | (with_reducible exact natural_DivMod.mono _ _ _)
   | (with_reducible exact LeO.refl _)
   | (with_reducible exact LeO.none _)
   | (with_reducible refine LeO.ite ?_ ?_)
   | (with_reducible refine LeO.bind ?_ (fun _=>?_))
   | exact ih0 _ _ _ _ _ _ _
   | exact natural_DivMod.mono _ _ _
   | exact LeO.none _
   | refine LeO.ite ?_ ?_
   | refine LeO.bind ?_ (fun _=>?_)
theorem integer_number_divide.mono:∀ a0 a1 a2 a3 k,LeO (integer_number_divide.f k a0 a1 a2 a3) (integer_number_divide.f (k + 1) a0 a1 a2 a3):=by
 intro a0 a1 a2 a3 k
 have ih0:=integer_number_divide.mono_l k
 unfold integer_number_divide.f
 repeat' first
   | (with_reducible exact ih0 _ _ _ _ _ _ _)
   | (with_reducible exact natural_DivMod.mono _ _ _)
   | (with_reducible exact LeO.refl _)
   | (with_reducible exact LeO.none _)
   | (with_reducible refine LeO.ite ?_ ?_)
   | (with_reducible refine LeO.bind ?_ (fun _=>?_))
   | exact ih0 _ _ _ _ _ _ _
   | exact natural_DivMod.mono _ _ _
   | exact LeO.none _
   | refine LeO.ite ?_ ?_
   | refine LeO.bind ?_ (fun _=>?_)
theorem integer_number_divide.calls (k:Nat) (a0_0:Bool) (a0_1:ByteArray) (a1_0:Bool) (a1_1:ByteArray) (r1:Bool) (r2:ByteArray) (r3:Bool) (r4:ByteArray) (w:World) (hL:LaidW w) (h:integer_number_divide.f k a0_0 a0_1 a1_0 a1_1 = some (r1,r2,r3,r4)) :
  Calls Tryz.prog 60 #[.agg #[.bool a0_0,.string a0_1],.agg #[.bool a1_0,.string a1_1]] w fun e w'=>e = .returned (.tuple #[.agg #[.bool r1,.string r2],.agg #[.bool r3,.string r4]])∧Below w.heap.size w w':=by
 have hu43:=Tryz.underlying43
 have HB:=Aside0.mk (Below.refl w.heap.size w)
 have HLW:=Aside0.mk hL
 clear hL
 have H:((natural_DivMod.f k a0_1 a1_1).bind fun bt353=>(if a0_0 = true then (integer_number_divide.j0 k bt353.1 bt353.2.1 (bt353.2.1.toList != ([48]:List UInt8)) a0_0 a0_1 a1_0 a1_1) else (integer_number_divide.j0 k bt353.1 bt353.2.1 false a0_0 a0_1 a1_0 a1_1))) = some (r1,r2,r3,r4):=h
 clear h
 obtain ⟨⟨t353,t354,t355⟩,A3,H⟩:=bn_ H
 dsimp only at H
 have HC4:=Aside0.mk H
 clear H
 go_enter Tryz.func60,Tryz.ntmps60
 go_upto_region 2 with (first|((with_reducible refine gate_dst (N:=2) rfl ?_);refine bv_ #[.bool a0_0,.string a0_1] 43 ?_;clear HB;intro gb349 hg w5 BK349 GE349 hb HB;clear hb hg)|((with_reducible refine gate_dst (N:=3) rfl ?_);refine bv_ #[.bool a1_0,.string a1_1] 43 ?_;clear HB;intro gb350 hg w6 BK350 GE350 hb HB;have x_:=ol_ BK349 hg hb;clear BK349;obtain ⟨BK349,NB349_350,NB350_349⟩:=x_;clear hb hg)|((with_reducible refine gate_dst (N:=4) rfl ?_);refine bv_ #[.bool false,.string (⟨#[]⟩:ByteArray)] 43 ?_;clear HB;intro gb351 hg w7 BK351 GE351 hb HB;have x_:=ol_ BK349 hg hb;clear BK349;obtain ⟨BK349,NB349_351,NB351_349⟩:=x_;have x_:=ol_ BK350 hg hb;clear BK350;obtain ⟨BK350,NB350_351,NB351_350⟩:=x_;clear hb hg)|((with_reducible refine gate_dst (N:=5) rfl ?_);refine bv_ #[.bool false,.string (⟨#[]⟩:ByteArray)] 43 ?_;clear HB;intro gb352 hg w8 BK352 GE352 hb HB;have x_:=ol_ BK349 hg hb;clear BK349;obtain ⟨BK349,NB349_352,NB352_349⟩:=x_;have x_:=ol_ BK350 hg hb;clear BK350;obtain ⟨BK350,NB350_352,NB352_350⟩:=x_;have x_:=ol_ BK351 hg hb;clear BK351;obtain ⟨BK351,NB351_352,NB352_351⟩:=x_;clear hb hg;have hnb9:=NB349_350.out;have hnc9:=NB350_349.out;have hnb10:=NB349_351.out;have hnc10:=NB351_349.out;have hnb11:=NB349_352.out;have hnc11:=NB352_349.out;obtain ⟨hcz12_0,hcz12_1,hfz12_0,hfz12_1⟩:=c2_ BK349;have hnb13:=NB350_351.out;have hnc13:=NB351_350.out;have hnb14:=NB350_352.out;have hnc14:=NB352_350.out;obtain ⟨hcz15_0,hcz15_1,hfz15_0,hfz15_1⟩:=c2_ BK350)|((with_reducible refine gate_callee (f:=38) rfl ?_);refine gl_ (some 14) Tryz.func38 #[.string a0_1,.string a1_1] (natural_DivMod.calls k a0_1 a1_1 t353 t354 t355 _ (HLW.out.below bx_) A3.out) ?_;clear HB;intro w16 hb HB;replace BK349:=bb_ BK349 hb;replace BK350:=bb_ BK350 hb;replace BK351:=bb_ BK351 hb;replace BK352:=bb_ BK352 hb;clear hb))
 (try simp only [Act.put,List.setIfInBounds_toArray,List.set_cons_zero,List.set_cons_succ])
 go_cut [23] (fun v23 wc=>∃ (kq:Nat) (x23_3:Bool),v23 = .bool x23_3∧Aside0 (integer_number_divide.j0 kq t353 t354 x23_3 a0_0 a0_1 a1_0 a1_1 = some (r1,r2,r3,r4))∧Aside0 (kq≤k)∧Aside0 (wc.heap[gb349]? = some (.cells #[.bool a0_0,.string a0_1] 43 (0,0)))∧Aside0 (wc.heap[gb350]? = some (.cells #[.bool a1_0,.string a1_1] 43 (0,0)))∧Aside0 (wc.heap[gb351]? = some (.cells #[.bool false,.string (⟨#[]⟩:ByteArray)] 43 (0,0)))∧Aside0 (wc.heap[gb352]? = some (.cells #[.bool false,.string (⟨#[]⟩:ByteArray)] 43 (0,0)))∧Aside0 (Below w.heap.size w wc))
 case first =>
  have H:=HC4.out
  clear HC4
  by_cases c17:a0_0 = true
  ·subst c17
   have H1:(integer_number_divide.j0 k t353 t354 (t354.toList != ([48]:List UInt8)) true a0_1 a1_0 a1_1) = some (r1,r2,r3,r4):=by rw [if_pos rfl] at H;exact H
   clear H
   have H:=H1
   clear H1
   have H':=Aside0.mk H
   clear H
   have hnb18:=NB349_350.out
   have hnc18:=NB350_349.out
   have hnb19:=NB349_351.out
   have hnc19:=NB351_349.out
   have hnb20:=NB349_352.out
   have hnc20:=NB352_349.out
   obtain ⟨hcz21_0,hcz21_1,hfz21_0,hfz21_1⟩:=c2_ BK349
   go_wp2
   go_meet
   case rel=>exact ⟨_,((t354.toList != ([48]:List UInt8))),(by first|rfl|(simp;done)|(simp [*];done)),H',⟨by first|omega|exact Nat.le_refl _⟩,⟨bk_⟩,⟨bk_⟩,⟨bk_⟩,⟨bk_⟩,⟨bx_⟩⟩
  ·replace c17:=Bool.eq_false_iff.mpr c17
   subst c17
   have H1:(integer_number_divide.j0 k t353 t354 false false a0_1 a1_0 a1_1) = some (r1,r2,r3,r4):=by rw [if_neg (show ¬ (false = true) by decide)] at H;exact H
   clear H
   have H:=H1
   clear H1
   have H':=Aside0.mk H
   clear H
   have hnb22:=NB349_350.out
   have hnc22:=NB350_349.out
   have hnb23:=NB349_351.out
   have hnc23:=NB351_349.out
   have hnb24:=NB349_352.out
   have hnc24:=NB352_349.out
   obtain ⟨hcz25_0,hcz25_1,hfz25_0,hfz25_1⟩:=c2_ BK349
   go_wp2
   go_meet
   case rel=>exact ⟨_,(false),(by first|rfl|(simp;done)|(simp [*];done)),H',⟨by first|omega|exact Nat.le_refl _⟩,⟨bk_⟩,⟨bk_⟩,⟨bk_⟩,⟨bk_⟩,⟨bx_⟩⟩
 case rest =>
  clear HC4
  try clear c1
  try clear c2
  try clear p2
  try clear c3
  try clear c6
  try clear c9
  try clear c10
  try clear c11
  try clear c13
  try clear c14
  try clear c17
  try clear c18
  try clear c19
  try clear c20
  try clear c22
  try clear c23
  try clear c24
  try clear hcz12_0
  try clear hcz12_1
  try clear hcz15_0
  try clear hcz15_1
  try clear hcz21_0
  try clear hcz21_1
  try clear hcz25_0
  try clear hcz25_1
  try clear hfz12_0
  try clear hfz12_1
  try clear hfz15_0
  try clear hfz15_1
  try clear hfz21_0
  try clear hfz21_1
  try clear hfz25_0
  try clear hfz25_1
  obtain ⟨kq,x23_3,rfl,HA,HJ3,BK349,BK350,BK351,BK352,HB⟩:=hcut
  cases kq with
  | zero=>exact absurd HA.out (by simp [integer_number_divide.j0])
  | succ kj3 =>
   have H:=HA.out
   clear HA
   simp only [integer_number_divide.j0] at H
   by_cases c26:x23_3 = true
   ·subst c26
    have H1:((natural_Add.f t353 (⟨#[49]⟩:ByteArray)).bind fun bt356=>((natural_Sub.f a1_1 t354).bind fun bt358=>((integer_with.f (a0_0 != a1_0) bt356.1).bind fun bt360=>((integer_with.f false bt358.1).bind fun bt362=>(some (bt360.1,bt360.2,bt362.1,bt362.2)))))) = some (r1,r2,r3,r4):=by rw [if_pos rfl] at H;exact H
    clear H
    have H:=H1
    clear H1
    obtain ⟨⟨t356,t357⟩,A27,H⟩:=bn_ H
    dsimp only at H
    obtain ⟨⟨t358,t359⟩,A28,H⟩:=bn_ H
    dsimp only at H
    obtain ⟨⟨t360,t361⟩,A29,H⟩:=bn_ H
    dsimp only at H
    obtain ⟨⟨t362,t363⟩,A30,H⟩:=bn_ H
    dsimp only at H
    simp only [Option.some.injEq,Prod.mk.injEq] at H
    obtain ⟨rfl,rfl,rfl,rfl⟩:=H
    go_wp2_with (first|((with_reducible refine gate_callee (f:=84) rfl ?_);refine gl_ (some 26) Tryz.func84 #[.string t353,.string (⟨#[49]⟩:ByteArray)] (natural_Add.calls t353 (⟨#[49]⟩:ByteArray) t356 t357 _ (HLW.out.below bx_) A27.out) ?_;clear HB;intro w31 hb HB;replace BK349:=bb_ BK349 hb;replace BK350:=bb_ BK350 hb;replace BK351:=bb_ BK351 hb;replace BK352:=bb_ BK352 hb;clear hb;have hnb32:=NB350_349.out;have hnc32:=NB349_350.out;have hnb33:=NB350_351.out;have hnc33:=NB351_350.out;have hnb34:=NB350_352.out;have hnc34:=NB352_350.out;obtain ⟨hcz35_0,hcz35_1,hfz35_0,hfz35_1⟩:=c2_ BK350)|((with_reducible refine gate_callee (f:=85) rfl ?_);refine gl_ (some 33) Tryz.func85 #[.string a1_1,.string t354] (natural_Sub.calls a1_1 t354 t358 t359 _ (HLW.out.below bx_) A28.out) ?_;clear HB;intro w36 hb HB;replace BK349:=bb_ BK349 hb;replace BK350:=bb_ BK350 hb;replace BK351:=bb_ BK351 hb;replace BK352:=bb_ BK352 hb;clear hb;have hnb37:=NB349_351.out;have hnc37:=NB351_349.out;have hnb38:=NB349_352.out;have hnc38:=NB352_349.out;obtain ⟨hcz39_0,hcz39_1,hfz39_0,hfz39_1⟩:=c2_ BK349;obtain ⟨hcz40_0,hcz40_1,hfz40_0,hfz40_1⟩:=c2_ BK350)|((with_reducible refine gate_callee (f:=62) rfl ?_);refine gl_ (some 42) Tryz.func62 #[.bool (a0_0 != a1_0),.string t356] (integer_with.calls (a0_0 != a1_0) t356 t360 t361 _ A29.out) ?_;clear HB;intro w41 hb HB;replace BK349:=bb_ BK349 hb;replace BK350:=bb_ BK350 hb;replace BK351:=bb_ BK351 hb;replace BK352:=bb_ BK352 hb;clear hb)|((with_reducible refine gate_callee (f:=62) rfl ?_);refine gl_ (some 44) Tryz.func62 #[.bool false,.string t358] (integer_with.calls false t358 t362 t363 _ A30.out) ?_;clear HB;intro w42 hb HB;replace BK349:=bb_ BK349 hb;replace BK350:=bb_ BK350 hb;replace BK351:=bb_ BK351 hb;replace BK352:=bb_ BK352 hb;clear hb;have hnb43:=NB351_352.out;have hnc43:=NB352_351.out;obtain ⟨hcz44_0,hcz44_1,hfz44_0,hfz44_1⟩:=c2_ BK351;obtain ⟨hcz45_0,hcz45_1,hfz45_0,hfz45_1⟩:=c2_ BK352))
    refine bodyPost_ret (results_cc rfl _ _ gb351 gb352 43 43 #[.bool t360,.string t361] #[.bool t362,.string t363] (0,0) (0,0) _ _ rfl bk_ Tryz.underlying43 rfl kr_ rfl bk_ Tryz.underlying43 rfl kr_) rfl ?_
    exact ⟨rf_,bx_⟩
   ·replace c26:=Bool.eq_false_iff.mpr c26
    subst c26
    have H1:((integer_with.f (a0_0 != a1_0) t353).bind fun bt364=>((integer_with.f false t354).bind fun bt366=>(some (bt364.1,bt364.2,bt366.1,bt366.2)))) = some (r1,r2,r3,r4):=by rw [if_neg (show ¬ (false = true) by decide)] at H;exact H
    clear H
    have H:=H1
    clear H1
    obtain ⟨⟨t364,t365⟩,A46,H⟩:=bn_ H
    dsimp only at H
    obtain ⟨⟨t366,t367⟩,A47,H⟩:=bn_ H
    dsimp only at H
    simp only [Option.some.injEq,Prod.mk.injEq] at H
    obtain ⟨rfl,rfl,rfl,rfl⟩:=H
    have hnb48:=NB349_350.out
    have hnc48:=NB350_349.out
    have hnb49:=NB349_351.out
    have hnc49:=NB351_349.out
    have hnb50:=NB349_352.out
    have hnc50:=NB352_349.out
    obtain ⟨hcz51_0,hcz51_1,hfz51_0,hfz51_1⟩:=c2_ BK349
    have hnb52:=NB350_351.out
    have hnc52:=NB351_350.out
    have hnb53:=NB350_352.out
    have hnc53:=NB352_350.out
    obtain ⟨hcz54_0,hcz54_1,hfz54_0,hfz54_1⟩:=c2_ BK350
    go_wp2_with (first|((with_reducible refine gate_callee (f:=62) rfl ?_);refine gl_ (some 42) Tryz.func62 #[.bool (a0_0 != a1_0),.string t353] (integer_with.calls (a0_0 != a1_0) t353 t364 t365 _ A46.out) ?_;clear HB;intro w55 hb HB;replace BK349:=bb_ BK349 hb;replace BK350:=bb_ BK350 hb;replace BK351:=bb_ BK351 hb;replace BK352:=bb_ BK352 hb;clear hb)|((with_reducible refine gate_callee (f:=62) rfl ?_);refine gl_ (some 44) Tryz.func62 #[.bool false,.string t354] (integer_with.calls false t354 t366 t367 _ A47.out) ?_;clear HB;intro w56 hb HB;replace BK349:=bb_ BK349 hb;replace BK350:=bb_ BK350 hb;replace BK351:=bb_ BK351 hb;replace BK352:=bb_ BK352 hb;clear hb;have hnb57:=NB351_352.out;have hnc57:=NB352_351.out;obtain ⟨hcz58_0,hcz58_1,hfz58_0,hfz58_1⟩:=c2_ BK351;obtain ⟨hcz59_0,hcz59_1,hfz59_0,hfz59_1⟩:=c2_ BK352))
    refine bodyPost_ret (results_cc rfl _ _ gb351 gb352 43 43 #[.bool t364,.string t365] #[.bool t366,.string t367] (0,0) (0,0) _ _ rfl bk_ Tryz.underlying43 rfl kr_ rfl bk_ Tryz.underlying43 rfl kr_) rfl ?_
    exact ⟨rf_,bx_⟩
end Go.Proofs.YtaknchlegjcdhaaGreatDoor.Pr
namespace Go.Proofs.YtaknchlegjcdhaaGreatDoor.Pr
open Go.RowKit Go.Proofs.YtaknchlegjcdhaaGreatDoorW.PrintWords Go.Proofs.YtaknchlegjcdhaaGreatDoorW.PrintLast Go.Proofs.YtaknchlegjcdhaaGreatDoorW.PrintMore
attribute [local go_sem] max2_int min2_int max_two min_two max_three min_three max_four min_four
set_option maxHeartbeats 8000000
set_option maxRecDepth 100000
set_option linter.unusedVariables false
set_option linter.unusedSimpArgs false
attribute [local go_sem high] eqA43
def integer_DivMod.f (k:Nat) (a0:ByteArray) (a1:ByteArray):Option (ByteArray × ByteArray × Int):=(integer_both.f k a0 a1).bind fun bt368=>(if bt368.2.2.2.2 = 0 then ((integer_zero.f).bind fun bt375=>(if (bt368.2.2.1 == bt375.1 && (bt368.2.2.2.1.toList == bt375.2.toList)) = true then (some ((⟨#[]⟩:ByteArray),(⟨#[]⟩:ByteArray),16)) else ((integer_number_divide.f k bt368.1 bt368.2.1 bt368.2.2.1 bt368.2.2.2.1).bind fun bt377=>((integer_number_text.f bt377.1 bt377.2.1).bind fun t383=>((integer_number_text.f bt377.2.2.1 bt377.2.2.2).bind fun t384=>(some (t383,t384,0))))))) else (some ((⟨#[]⟩:ByteArray),(⟨#[]⟩:ByteArray),bt368.2.2.2.2)))
theorem integer_DivMod.mono:∀ a0 a1 k,LeO (integer_DivMod.f k a0 a1) (integer_DivMod.f (k + 1) a0 a1):=by intro a0 a1 k;unfold integer_DivMod.f;have:=@integer_both.mono;have:=@integer_number_divide.mono;exact mn_
theorem integer_DivMod.calls (k:Nat) (a0:ByteArray) (a1:ByteArray) (r1:ByteArray) (r2:ByteArray) (r3:Int) (w:World) (hL:LaidW w) (h:integer_DivMod.f k a0 a1 = some (r1,r2,r3)) :
  Calls Tryz.prog 30 #[.string a0,.string a1] w fun e w'=>e = .returned (.tuple #[.string r1,.string r2,.int .i64 r3])∧Below w.heap.size w w':=by
 have hu43:=Tryz.underlying43
 have HB:=Aside0.mk (Below.refl w.heap.size w)
 have HLW:=Aside0.mk hL
 clear hL
 have H:((integer_both.f k a0 a1).bind fun bt368=>(if bt368.2.2.2.2 = 0 then ((integer_zero.f).bind fun bt375=>(if (bt368.2.2.1 == bt375.1 && (bt368.2.2.2.1.toList == bt375.2.toList)) = true then (some ((⟨#[]⟩:ByteArray),(⟨#[]⟩:ByteArray),16)) else ((integer_number_divide.f k bt368.1 bt368.2.1 bt368.2.2.1 bt368.2.2.2.1).bind fun bt377=>((integer_number_text.f bt377.1 bt377.2.1).bind fun t383=>((integer_number_text.f bt377.2.2.1 bt377.2.2.2).bind fun t384=>(some (t383,t384,0))))))) else (some ((⟨#[]⟩:ByteArray),(⟨#[]⟩:ByteArray),bt368.2.2.2.2)))) = some (r1,r2,r3):=h
 clear h
 obtain ⟨⟨t368,t369,t370,t371,t372⟩,A3,H⟩:=bn_ H
 dsimp only at H
 by_cases c4:t372 = 0
 ·rw [if_pos c4] at H
  have c4b0:(t372 == 0) = true:=beq_iff_eq.mpr c4
  have c4b1:(t372 != 0) = false:=bne_eq_false_iff_eq.mpr c4
  clear c4
  obtain ⟨⟨t375,t376⟩,A5,H⟩:=bn_ H
  dsimp only at H
  by_cases c6:(t370 == t375 && (t371.toList == t376.toList)) = true
  ·rw [if_pos c6] at H
   have c6b0:(t370 == t375 && (t371.toList == t376.toList)) = true:=c6
   (try (have c6b1:decide (t370 = t375 && (t371.toList == t376.toList)) = true:=by simpa using c6))
   (try (have c6b2:(t370 == t375 && (t371.toList == t376.toList)) = true:=by simpa using c6))
   clear c6
   simp only [Option.some.injEq,Prod.mk.injEq] at H
   obtain ⟨rfl,rfl,rfl⟩:=H
   go_enter Tryz.func30,Tryz.ntmps30
   try go_wp2_with (first|((with_reducible refine gate_callee (f:=51) rfl ?_);refine gl_ (some 15) Tryz.func51 #[.string a0,.string a1] (integer_both.calls k a0 a1 t368 t369 t370 t371 t372 _ A3.out) ?_;clear HB;intro w7 hb HB;clear hb)|((with_reducible refine gate_dst (N:=7) rfl ?_);refine bv_ #[.bool false,.string (⟨#[]⟩:ByteArray)] 43 ?_;clear HB;intro gb373 hg w8 BK373 GE373 hb HB;clear hb hg)|((with_reducible refine gate_dst (N:=8) rfl ?_);refine bv_ #[.bool false,.string (⟨#[]⟩:ByteArray)] 43 ?_;clear HB;intro gb374 hg w9 BK374 GE374 hb HB;have x_:=ol_ BK373 hg hb;clear BK373;obtain ⟨BK373,NB373_374,NB374_373⟩:=x_;clear hb hg;have hnb10:=NB373_374.out;have hnc10:=NB374_373.out;obtain ⟨hcz11_0,hcz11_1,hfz11_0,hfz11_1⟩:=c2_ BK373;obtain ⟨hcz12_0,hcz12_1,hfz12_0,hfz12_1⟩:=c2_ BK374))
   generalize hw_:((((w9.setCell ⟨gb373,0,none⟩ (.bool t368)).setCell ⟨gb373,1,none⟩ (.string t369)).setCell ⟨gb374,0,none⟩ (.bool t370)).setCell ⟨gb374,1,none⟩ (.string t371)) = w13
   replace BK373:Aside0 (w13.heap[gb373]? = some (.cells #[.bool t368,.string t369] 43 (0,0))):=gk_ hw_
   replace BK374:Aside0 (w13.heap[gb374]? = some (.cells #[.bool t370,.string t371] 43 (0,0))):=gk_ hw_
   replace HB:=gb_ hw_
   clear hw_
   replace BK373:=dr_ BK373
   replace BK374:=dr_ BK374
   replace HB:=db_ HB
   refine start_ (n:=4) (S:=fun w'=>w'.cell? ⟨gb374,0,none⟩ = some (.bool t370)∧w'.cell? ⟨gb374,1,none⟩ = some (.string t371)) (ds:=[]) #[false,false,false,false] kr_ rfl rfl hc_ (fun hHeld=>?_)
   generalize w13.drew = w14 at BK373 BK374 HB hHeld ⊢
   refine tk2_ 0 (some 24) #[true,false,false,false] hHeld ?_
   refine oc_ 1 (some 25) #[true,true,false,false] Tryz.func59 #[] (fun K hK=>?_)
   with_reducible refine (integer_zero.calls  t375 t376 _ A5.out).mono ?_
   rintro e w15 ⟨rfl,hb⟩
   refine ⟨_,rfl,?_⟩
   replace BK373:=bb_ BK373 hb
   replace BK374:=bb_ BK374 hb
   replace HB:=bs_ hb
   (try clear hb)
   refine hk_ hK (fun hHeld=>?_);clear hK K
   refine pu_ 2 (some 26) #[true,true,true,false] ?_
   refine pu_ 3 (some 23) #[true,true,true,true] ?_
   refine done_ kr_ ?_
   try go_wp2
   go_ret3
   exact ⟨rf_,bx_⟩
  ·rw [if_neg c6] at H
   have c6b0:(t370 == t375 && (t371.toList == t376.toList)) = false:=by simpa using c6
   (try (have c6b1:decide (t370 = t375 && (t371.toList == t376.toList)) = false:=by simpa using c6))
   (try (have c6b2:(t370 == t375 && (t371.toList == t376.toList)) = false:=by simpa using c6))
   (try (have c6b3:¬ (t370 = t375 && (t371.toList == t376.toList)):=by simpa using c6))
   clear c6
   obtain ⟨⟨t377,t378,t379,t380⟩,A16,H⟩:=bn_ H
   dsimp only at H
   obtain ⟨t383,A17,H⟩:=bn_ H
   obtain ⟨t384,A18,H⟩:=bn_ H
   simp only [Option.some.injEq,Prod.mk.injEq] at H
   obtain ⟨rfl,rfl,rfl⟩:=H
   go_enter Tryz.func30,Tryz.ntmps30
   try go_wp2_with (first|((with_reducible refine gate_callee (f:=51) rfl ?_);refine gl_ (some 15) Tryz.func51 #[.string a0,.string a1] (integer_both.calls k a0 a1 t368 t369 t370 t371 t372 _ A3.out) ?_;clear HB;intro w19 hb HB;clear hb)|((with_reducible refine gate_dst (N:=7) rfl ?_);refine bv_ #[.bool false,.string (⟨#[]⟩:ByteArray)] 43 ?_;clear HB;intro gb373 hg w20 BK373 GE373 hb HB;clear hb hg)|((with_reducible refine gate_dst (N:=8) rfl ?_);refine bv_ #[.bool false,.string (⟨#[]⟩:ByteArray)] 43 ?_;clear HB;intro gb374 hg w21 BK374 GE374 hb HB;have x_:=ol_ BK373 hg hb;clear BK373;obtain ⟨BK373,NB373_374,NB374_373⟩:=x_;clear hb hg;have hnb22:=NB373_374.out;have hnc22:=NB374_373.out;obtain ⟨hcz23_0,hcz23_1,hfz23_0,hfz23_1⟩:=c2_ BK373;obtain ⟨hcz24_0,hcz24_1,hfz24_0,hfz24_1⟩:=c2_ BK374))
   generalize hw_:((((w21.setCell ⟨gb373,0,none⟩ (.bool t368)).setCell ⟨gb373,1,none⟩ (.string t369)).setCell ⟨gb374,0,none⟩ (.bool t370)).setCell ⟨gb374,1,none⟩ (.string t371)) = w25
   replace BK373:Aside0 (w25.heap[gb373]? = some (.cells #[.bool t368,.string t369] 43 (0,0))):=gk_ hw_
   replace BK374:Aside0 (w25.heap[gb374]? = some (.cells #[.bool t370,.string t371] 43 (0,0))):=gk_ hw_
   replace HB:=gb_ hw_
   clear hw_
   replace BK373:=dr_ BK373
   replace BK374:=dr_ BK374
   replace HB:=db_ HB
   refine start_ (n:=4) (S:=fun w'=>w'.cell? ⟨gb374,0,none⟩ = some (.bool t370)∧w'.cell? ⟨gb374,1,none⟩ = some (.string t371)) (ds:=[]) #[false,false,false,false] kr_ rfl rfl hc_ (fun hHeld=>?_)
   generalize w25.drew = w26 at BK373 BK374 HB hHeld ⊢
   refine tk2_ 0 (some 24) #[true,false,false,false] hHeld ?_
   refine oc_ 1 (some 25) #[true,true,false,false] Tryz.func59 #[] (fun K hK=>?_)
   with_reducible refine (integer_zero.calls  t375 t376 _ A5.out).mono ?_
   rintro e w27 ⟨rfl,hb⟩
   refine ⟨_,rfl,?_⟩
   replace BK373:=bb_ BK373 hb
   replace BK374:=bb_ BK374 hb
   replace HB:=bs_ hb
   (try clear hb)
   refine hk_ hK (fun hHeld=>?_);clear hK K
   refine pu_ 2 (some 26) #[true,true,true,false] ?_
   refine pu_ 3 (some 23) #[true,true,true,true] ?_
   refine done_ kr_ ?_
   obtain ⟨hcz28_0,hcz28_1,hfz28_0,hfz28_1⟩:=c2_ BK373
   obtain ⟨hcz29_0,hcz29_1,hfz29_0,hfz29_1⟩:=c2_ BK374
   try go_wp2_with (first|((with_reducible refine gate_callee (f:=60) rfl ?_);refine gl_ (some 30) Tryz.func60 #[.agg #[.bool t368,.string t369],.agg #[.bool t370,.string t371]] (integer_number_divide.calls k t368 t369 t370 t371 t377 t378 t379 t380 _ (HLW.out.below bx_) A16.out) ?_;clear HB;intro w30 hb HB;replace BK373:=bb_ BK373 hb;replace BK374:=bb_ BK374 hb;clear hb)|((with_reducible refine gate_dst (N:=10) rfl ?_);refine bv_ #[.bool false,.string (⟨#[]⟩:ByteArray)] 43 ?_;clear HB;intro gb381 hg w31 BK381 GE381 hb HB;have x_:=ol_ BK373 hg hb;clear BK373;obtain ⟨BK373,NB373_381,NB381_373⟩:=x_;have x_:=ol_ BK374 hg hb;clear BK374;obtain ⟨BK374,NB374_381,NB381_374⟩:=x_;clear hb hg)|((with_reducible refine gate_dst (N:=11) rfl ?_);refine bv_ #[.bool false,.string (⟨#[]⟩:ByteArray)] 43 ?_;clear HB;intro gb382 hg w32 BK382 GE382 hb HB;have x_:=ol_ BK373 hg hb;clear BK373;obtain ⟨BK373,NB373_382,NB382_373⟩:=x_;have x_:=ol_ BK374 hg hb;clear BK374;obtain ⟨BK374,NB374_382,NB382_374⟩:=x_;have x_:=ol_ BK381 hg hb;clear BK381;obtain ⟨BK381,NB381_382,NB382_381⟩:=x_;clear hb hg;have hnb33:=NB381_373.out;have hnc33:=NB373_381.out;have hnb34:=NB381_374.out;have hnc34:=NB374_381.out;have hnb35:=NB381_382.out;have hnc35:=NB382_381.out;obtain ⟨hcz36_0,hcz36_1,hfz36_0,hfz36_1⟩:=c2_ BK381;have hnb37:=NB382_373.out;have hnc37:=NB373_382.out;have hnb38:=NB382_374.out;have hnc38:=NB374_382.out;obtain ⟨hcz39_0,hcz39_1,hfz39_0,hfz39_1⟩:=c2_ BK382))
   generalize hw_:((((w32.setCell ⟨gb381,0,none⟩ (.bool t377)).setCell ⟨gb381,1,none⟩ (.string t378)).setCell ⟨gb382,0,none⟩ (.bool t379)).setCell ⟨gb382,1,none⟩ (.string t380)) = w40
   replace BK373:Aside0 (w40.heap[gb373]? = some (.cells #[.bool t368,.string t369] 43 (0,0))):=gk_ hw_
   replace BK374:Aside0 (w40.heap[gb374]? = some (.cells #[.bool t370,.string t371] 43 (0,0))):=gk_ hw_
   replace BK381:Aside0 (w40.heap[gb381]? = some (.cells #[.bool t377,.string t378] 43 (0,0))):=gk_ hw_
   replace BK382:Aside0 (w40.heap[gb382]? = some (.cells #[.bool t379,.string t380] 43 (0,0))):=gk_ hw_
   replace HB:=gb_ hw_
   clear hw_
   replace BK373:=dr_ BK373
   replace BK374:=dr_ BK374
   replace BK381:=dr_ BK381
   replace BK382:=dr_ BK382
   replace HB:=db_ HB
   refine start_ (n:=7) (S:=fun w'=>w'.cell? ⟨gb381,0,none⟩ = some (.bool t377)∧w'.cell? ⟨gb381,1,none⟩ = some (.string t378)∧w'.cell? ⟨gb382,0,none⟩ = some (.bool t379)∧w'.cell? ⟨gb382,1,none⟩ = some (.string t380)) (ds:=[]) #[false,false,false,false,false,false,false] kr_ rfl rfl hc_ (fun hHeld=>?_)
   generalize w40.drew = w41 at BK373 BK374 BK381 BK382 HB hHeld ⊢
   refine tk4_ 0 (some 33) #[true,false,false,false,false,false,false] hHeld ?_
   refine tk4_ 2 (some 35) #[true,false,true,false,false,false,false] hHeld ?_
   refine oc_ 1 (some 34) #[true,true,true,false,false,false,false] Tryz.func46 #[.agg #[.bool t377,.string t378]] (fun K hK=>?_)
   with_reducible refine (integer_number_text.calls t377 t378 t383 _ A17.out).mono ?_
   rintro e w42 ⟨rfl,hb⟩
   refine ⟨_,rfl,?_⟩
   replace BK373:=bb_ BK373 hb
   replace BK374:=bb_ BK374 hb
   replace BK381:=bb_ BK381 hb
   replace BK382:=bb_ BK382 hb
   replace HB:=bs_ hb
   (try clear hb)
   refine hk_ hK (fun hHeld=>?_);clear hK K
   refine oc_ 3 (some 36) #[true,true,true,true,false,false,false] Tryz.func46 #[.agg #[.bool t379,.string t380]] (fun K hK=>?_)
   with_reducible refine (integer_number_text.calls t379 t380 t384 _ A18.out).mono ?_
   rintro e w43 ⟨rfl,hb⟩
   refine ⟨_,rfl,?_⟩
   replace BK373:=bb_ BK373 hb
   replace BK374:=bb_ BK374 hb
   replace BK381:=bb_ BK381 hb
   replace BK382:=bb_ BK382 hb
   replace HB:=bs_ hb
   (try clear hb)
   refine hk_ hK (fun hHeld=>?_);clear hK K
   refine pu_ 4 (some 4) #[true,true,true,true,true,false,false] ?_
   refine pu_ 5 (some 5) #[true,true,true,true,true,true,false] ?_
   refine pu_ 6 (some 6) #[true,true,true,true,true,true,true] ?_
   refine done_ kr_ ?_
   try go_wp2
   go_ret3
   exact ⟨rf_,bx_⟩
 ·rw [if_neg c4] at H
  have c4b0:(t372 == 0) = false:=beq_eq_false_iff_ne.mpr c4
  have c4b1:(t372 != 0) = true:=bne_iff_ne.mpr c4
  simp only [Option.some.injEq,Prod.mk.injEq] at H
  obtain ⟨rfl,rfl,rfl⟩:=H
  go_enter Tryz.func30,Tryz.ntmps30
  go_wp2_with (first|((with_reducible refine gate_callee (f:=51) rfl ?_);refine gl_ (some 15) Tryz.func51 #[.string a0,.string a1] (integer_both.calls k a0 a1 t368 t369 t370 t371 t372 _ A3.out) ?_;clear HB;intro w44 hb HB;clear hb)|((with_reducible refine gate_dst (N:=7) rfl ?_);refine bv_ #[.bool false,.string (⟨#[]⟩:ByteArray)] 43 ?_;clear HB;intro gb373 hg w45 BK373 GE373 hb HB;clear hb hg)|((with_reducible refine gate_dst (N:=8) rfl ?_);refine bv_ #[.bool false,.string (⟨#[]⟩:ByteArray)] 43 ?_;clear HB;intro gb374 hg w46 BK374 GE374 hb HB;have x_:=ol_ BK373 hg hb;clear BK373;obtain ⟨BK373,NB373_374,NB374_373⟩:=x_;clear hb hg;have hnb47:=NB373_374.out;have hnc47:=NB374_373.out;obtain ⟨hcz48_0,hcz48_1,hfz48_0,hfz48_1⟩:=c2_ BK373;obtain ⟨hcz49_0,hcz49_1,hfz49_0,hfz49_1⟩:=c2_ BK374))
  go_ret3
  exact ⟨rf_,bx_⟩
end Go.Proofs.YtaknchlegjcdhaaGreatDoor.Pr
set_option linter.unusedVariables false
set_option linter.unusedSimpArgs false
namespace Go.Proofs.YtaknchlegjcdhaaGreatDoor.Pr
open Go.RowKit Go.Lib Go.Proofs.YtaknchlegjcdhaaGreatDoorW.PrintWords Go.Proofs.YtaknchlegjcdhaaGreatDoorW.PrintLast Go.Proofs.YtaknchlegjcdhaaGreatDoorW.PrintMore
abbrev Ent:=Nat × Nat × Bool × ByteArray
structure Lies (w0 w:World) (E:List Ent):Prop where
 at_:∀ e ∈ E,w.heap[e.2.1]? = some (.cells #[.bool e.2.2.1,.string e.2.2.2] 43 (0,0))
 ge:∀ e ∈ E,w0.heap.size≤e.2.1
 one:∀ e ∈ E,∀ d ∈ E,e.1 = d.1 ∨ e.2.1 = d.2.1→e = d
 bel:Below w0.heap.size w0 w
theorem Lies.nil (w:World):Lies w w []:=⟨fun e h=>by simp at h,fun e h=>by simp at h,fun e h=>by simp at h,Below.refl _ _⟩
theorem Lies.step {w0 w w':World} {E:List Ent} (h:Lies w0 w E) (hb:Below w.heap.size w w'):Lies w0 w' E :=
 ⟨fun e he=>blk_below (h.at_ e he) hb,h.ge,h.one,below_step h.bel hb⟩
theorem Lies.drew {w0 w:World} {E:List Ent} (h:Lies w0 w E):Lies w0 w.drew E:=h.step (below_drew1 (Below.refl _ _))
theorem Lies.sub {w0 w:World} {E D:List Ent} (h:Lies w0 w E) (hd:∀ e ∈ D,e ∈ E):Lies w0 w D :=
 ⟨fun e he=>h.at_ e (hd e he),fun e he=>h.ge e (hd e he),fun e he d hd'=>h.one e (hd e he) d (hd d hd'),h.bel⟩
theorem Lies.alloc {w0 w w':World} {E:List Ent} (h:Lies w0 w E) (k g:Nat) (hk:∀ e ∈ E,e.1≠k) (hg:g = w.heap.size) (hbox:w'.heap[g]? = some (.cells #[.bool false,.string ⟨#[]⟩] 43 (0,0))) (hb:Below w.heap.size w w') :
  Lies w0 w' ((k,g,false,⟨#[]⟩) :: E):=by
 have hs:=h.step hb
 refine ⟨fun e he=>?_,fun e he=>?_,fun e he d hd hed=>?_,hs.bel⟩
 ·rcases List.mem_cons.1 he with rfl|he
  ·exact hbox
  ·exact hs.at_ e he
 ·rcases List.mem_cons.1 he with rfl|he
  ·rw [hg]
   exact below_size h.bel
  ·exact h.ge e he
 ·rcases List.mem_cons.1 he with rfl|he
  ·rcases List.mem_cons.1 hd with rfl|hd
   ·rfl
   ·rcases hed with h1|h1
    ·exact absurd h1.symm (hk d hd)
    ·have:=blk_lt (h.at_ d hd)
     simp only at h1
     omega
  ·rcases List.mem_cons.1 hd with rfl|hd
   ·rcases hed with h1|h1
    ·exact absurd h1 (hk e he)
    ·have:=blk_lt (h.at_ e he)
     simp only at h1
     omega
   ·exact h.one e he d hd hed
def upd (E:List Ent) (k:Nat) (b:Bool) (s:ByteArray):List Ent:=E.map fun e=>if e.1 = k then (e.1,e.2.1,b,s) else e
theorem upd_mem {E:List Ent} {k g:Nat} {b0:Bool} {s0:ByteArray} (h:(k,g,b0,s0) ∈ E) (b:Bool) (s:ByteArray):(k,g,b,s) ∈ upd E k b s:=List.mem_map.2 ⟨_,h,by rw [if_pos rfl]⟩
theorem upd_mem_ne {E:List Ent} {e:Ent} (h:e ∈ E) {k:Nat} (hk:e.1≠k) (b:Bool) (s:ByteArray):e ∈ upd E k b s:=List.mem_map.2 ⟨_,h,by rw [if_neg hk]⟩
theorem Lies.stored {w0 w w':World} {E:List Ent} (h:Lies w0 w E) {k g:Nat} {b0:Bool} {s0:ByteArray} (hm:(k,g,b0,s0) ∈ E) (b:Bool) (s:ByteArray)
  (hn:w'.heap[g]? = some (.cells #[.bool b,.string s] 43 (0,0))) (ho:∀ i,i < w.heap.size→i≠g→w'.heap[i]? = w.heap[i]?) (hb:Below w0.heap.size w0 w'):Lies w0 w' (upd E k b s):=by
 refine ⟨fun e he=>?_,fun e he=>?_,fun e he d hd hed=>?_,hb⟩
 ·obtain ⟨d,hd,rfl⟩:=List.mem_map.1 he
  by_cases hk:d.1 = k
  ·have:=h.one d hd _ hm (.inl hk)
   subst this
   rw [if_pos rfl]
   exact hn
  ·rw [if_neg hk]
   refine (ho _ (blk_lt (h.at_ d hd)) (fun hg=>hk ?_)).trans (h.at_ d hd)
   rw [h.one d hd _ hm (.inr hg)]
 ·obtain ⟨d,hd,rfl⟩:=List.mem_map.1 he
  split
  ·exact h.ge d hd
  ·exact h.ge d hd
 ·obtain ⟨e1,he1,rfl⟩:=List.mem_map.1 he
  obtain ⟨d1,hd1,rfl⟩:=List.mem_map.1 hd
  have key:e1.1 = d1.1 ∨ e1.2.1 = d1.2.1:=by
   revert hed
   split<;>split<;>exact fun h=>h
  have:=h.one e1 he1 d1 hd1 key
  subst this
  rfl
theorem Lies.set {w0 w:World} {E:List Ent} (h:Lies w0 w E) {k g:Nat} {b0:Bool} {s0:ByteArray} (hm:(k,g,b0,s0) ∈ E) (b:Bool) (s:ByteArray) :
  Lies w0 ((w.setCell ⟨g,0,none⟩ (.bool b)).setCell ⟨g,1,none⟩ (.string s)) (upd E k b s):=by
 have hg:=h.at_ _ hm
 have hge:=h.ge _ hm
 refine h.stored hm b s (blk_put (cs:=#[.bool b,.string s0]) (blk_put (cs:=#[.bool b0,.string s0]) hg 0 _ rfl) 1 _ rfl) (fun i hi hne=>?_) (below_set (below_set h.bel hge) hge)
 exact (Go.Deep.blk_setCell_other _ _ _ _ hne).trans (Go.Deep.blk_setCell_other _ _ _ _ hne)
theorem Lies.grown {w0 w w':World} {E:List Ent} (h:Lies w0 w E) {k g:Nat} {b0:Bool} {s0:ByteArray} (hm:(k,g,b0,s0) ∈ E) (b:Bool) (s:ByteArray)
  (hn:w'.heap[g]? = some (.cells #[.bool b,.string s] 43 (0,0))) (hG:w.grownBy w' (some g)):Lies w0 w' (upd E k b s) :=
 h.stored hm b s hn (fun i hi hne=>hG.block i hi (fun he=>hne (by injection he))) (pw_below_grown h.bel _ h.bel.size hG (fun k hk=>by injection hk with hk;rw [← hk];exact h.ge _ hm))
theorem Lies.c0 {w0 w:World} {E:List Ent} (h:Lies w0 w E) {k g:Nat} {b:Bool} {s:ByteArray} (hm:(k,g,b,s) ∈ E):w.cell? ⟨g,0,none⟩ = some (.bool b):=(blk_cell (h.at_ _ hm) 0).trans rfl
theorem Lies.c1 {w0 w:World} {E:List Ent} (h:Lies w0 w E) {k g:Nat} {b:Bool} {s:ByteArray} (hm:(k,g,b,s) ∈ E):w.cell? ⟨g,1,none⟩ = some (.string s):=(blk_cell (h.at_ _ hm) 1).trans rfl
theorem Lies.z0 {w0 w:World} {E:List Ent} (h:Lies w0 w E) {k g:Nat} {b:Bool} {s:ByteArray} (hm:(k,g,b,s) ∈ E):w.frozen? ⟨g,0,none⟩ = false:=blk_frozen (h.at_ _ hm) 0
theorem Lies.z1 {w0 w:World} {E:List Ent} (h:Lies w0 w E) {k g:Nat} {b:Bool} {s:ByteArray} (hm:(k,g,b,s) ∈ E):w.frozen? ⟨g,1,none⟩ = false:=blk_frozen (h.at_ _ hm) 1
end Go.Proofs.YtaknchlegjcdhaaGreatDoor.Pr
set_option linter.unusedVariables false
set_option linter.unusedSimpArgs false
namespace Go.Proofs.YtaknchlegjcdhaaGreatDoor.Pr
open Go.RowKit Go.Lib Go.Proofs.YtaknchlegjcdhaaGreatDoorW.PrintWords Go.Proofs.YtaknchlegjcdhaaGreatDoorW.PrintLast Go.Proofs.YtaknchlegjcdhaaGreatDoorW.PrintMore
def bezL:Nat→Bool→ByteArray→Bool→ByteArray→Bool→ByteArray→Bool→ByteArray→Option (Bool × ByteArray × Bool × ByteArray)
 | 0,_,_,_,_,_,_,_,_=>none
 | k + 1,r0,r1,s0,s1,x0,x1,y0,y1 =>
  if (s0 == false && (s1.toList == ([48]:List UInt8))) = true then some (r0,r1,x0,x1)
  else (integer_number_divide.f k r0 r1 s0 s1).bind fun q=>(integer_number_times.f q.1 q.2.1 y0 y1).bind fun p=>(integer_number_opposite.f p.1 p.2).bind fun o=>(integer_number_plus.f x0 x1 o.1 o.2).bind fun z =>
   bezL k s0 s1 q.2.2.1 q.2.2.2 y0 y1 z.1 z.2
def bezT (k:Nat) (n0:Bool) (n1:ByteArray) (m0:Bool) (m1:ByteArray) (r0:Bool) (r1:ByteArray) (x0:Bool) (x1:ByteArray):Option (ByteArray × ByteArray × ByteArray) :=
 (integer_with.f false m1).bind fun d=>(integer_number_divide.f k d.1 d.2 r0 r1).bind fun p=>(integer_number_divide.f k x0 x1 p.1 p.2.1).bind fun q=>(integer_number_times.f n0 n1 q.2.2.1 q.2.2.2).bind fun t=>(integer_number_opposite.f t.1 t.2).bind fun o =>
  (integer_number_plus.f r0 r1 o.1 o.2).bind fun u=>(integer_number_divide.f k u.1 u.2 m0 m1).bind fun z=>(integer_number_text.f r0 r1).bind fun a=>(integer_number_text.f q.2.2.1 q.2.2.2).bind fun b=>(integer_number_text.f z.1 z.2.1).bind fun c=>some (a,b,c)
theorem fresh_cons {E:List Ent} {k j g:Nat} {b:Bool} {s:ByteArray} (hne:j≠k) (h:∀ e ∈ E,e.1≠k):∀ e ∈ ((j,g,b,s):Ent) :: E,e.1≠k:=fun e he=>by
 rcases List.mem_cons.1 he with rfl|he
 ·exact hne
 ·exact h e he
end Go.Proofs.YtaknchlegjcdhaaGreatDoor.Pr
