/- Part 3 of 5: walks and laws of functions that the last part joins. The words of the print (W..) are the kit's, cut down by program to what is used here. -/
import Derived.Test.YtbfmfflhdphohaaGa2
set_option linter.unusedVariables false
set_option linter.unusedSimpArgs false
namespace Go.Proofs.Ytbfmfflhdphohaa.Pr
open Go.RowKit Go.Proofs.YtbfmfflhdphohaaW.PrintWords Go.Proofs.YtbfmfflhdphohaaW.PrintLast Go.Proofs.YtbfmfflhdphohaaW.PrintMore
theorem zero128 (w:World):(zeroValue 128).run Try.prog w = .ok (.agg #[.int .i64 0,.int .i64 0]) w:=by kernel_rfl
def sF (st:Sts):Int→Option Value:=fun k=>(st k).map fun p=>.agg #[.int .i64 p.1,.int .i64 p.2]
theorem sF_none {st:Sts} {k:Int} (h:st k = none):sF st k = none:=by unfold sF;rw [h];rfl
theorem sF_some {st:Sts} {k i u:Int} (h:st k = some (i,u)):sF st k = some (.agg #[.int .i64 i,.int .i64 u]):=by unfold sF;rw [h];rfl
theorem sF_put (st:Sts) (m i u:Int):(fun j=>if j = m then some (Value.agg #[.int .i64 i,.int .i64 u]) else sF st j) = sF fun j=>if j = m then some (i,u) else st j:=by
 funext j
 unfold sF
 by_cases e:j = m
 ·simp [e]
 ·simp [e]
def root0 (l:List Int):Sts:=fun k=>if k ∈ l then some (-1,-1) else none
theorem root0_snoc (a:List Int) (x:Int):(fun j=>if j = x then some ((-1:Int),(-1:Int)) else root0 a j) = root0 (a ++ [x]):=by
 funext j
 unfold root0
 by_cases e:j = x
 ·simp [e]
 ·simp [e]
theorem bfs_root (E:List S48) (ex:Int→Bool) (fr fl:List Int) (hn:fr.Nodup):Bfs E ex fr fl fr (root0 fr) :=
 ⟨hn,fun v=>by unfold root0;by_cases e:v ∈ fr<;>simp [e],fun j v hj=>.inl ⟨List.mem_of_getElem? hj,by unfold root0;rw [if_pos (List.mem_of_getElem? hj)]⟩⟩
theorem cap_res {E:List S48} {ex:Int→Bool} {fl:List Int} {i:Nat} {u v:Int} {o:S48} {x:Int} (ho:E[i]? = some o) (hx:fl[i]? = some x) (h:capM o x (ex i) u = (v,true)):Res E ex fl i u v:=by
 unfold capM at h
 cases hot:otherO o u with
 | none=>rw [hot] at h;injection h with _ h;cases h
 | some m =>
  rw [hot] at h
  cases hex:ex i with
  | true=>rw [hex] at h;injection h with _ h;cases h
  | false =>
   rw [hex] at h
   injection h with h1 h2
   subst h1
   refine ⟨by omega,o,x,by simpa using ho,by simpa using hx,hot,hex,?_⟩
   by_cases e:u = o.f1
   ·rw [if_pos e] at h2 ⊢;exact of_decide_eq_true h2
   ·rw [if_neg e] at h2 ⊢;exact of_decide_eq_true h2
theorem res_cap {E:List S48} {ex:Int→Bool} {fl:List Int} {i:Nat} {u v:Int} {o:S48} {x:Int} (ho:E[i]? = some o) (hx:fl[i]? = some x) (h:Res E ex fl i u v):capM o x (ex i) u = (v,true):=by
 obtain ⟨_,o2,x2,h1,h2,h3,h4,h5⟩:=h
 rw [Int.toNat_natCast,ho] at h1
 rw [Int.toNat_natCast,hx] at h2
 injection h1 with h1
 injection h2 with h2
 subst h1 h2
 unfold capM
 rw [h3,h4]
 show (v,_) = _
 by_cases e:u = o.f1
 ·rw [if_pos e] at h5 ⊢;rw [decide_eq_true h5]
 ·rw [if_neg e] at h5 ⊢;rw [decide_eq_true h5]
def AugOut (w0:World) (B xb:Nat) (A0:Option Addr) (c0:Nat) (E:List S48) (A1:Option Addr) (c1:Nat) (fr:List Int) (tt:Int) (fb g:Nat) (lb:Array Value) (ex:Int→Bool) (n:Int) (e:Ending) (w':World):Prop :=
 ∃ (b:Bool) (fl':List Int),e = .returned (.bool b)∧Below w0.heap.size w0 w'∧NetB w' xb A0 c0 E A1 c1 fr tt fb g lb∧RI w' B (.slice (some ⟨fb,0,none⟩) E.length E.length) fl'∧FlowOK E ex fr tt fl' (if b = true then n + 1 else n)∧(b = false→n = mc (keepF ex 0 E) fr tt)
theorem RI_len {W:World} {B:Nat} {A:Option Addr} {k c:Nat} {l:List Int} (h:RI W B (.slice A k c) l):l.length = k:=by
 obtain ⟨A',c',e,_,_⟩:=Kd.R_reads h
 injection e with _ e _
 exact e.symm
theorem RI_C2 {W:World} {B:Nat} {A:Option Addr} {k c:Nat} {l:List Int} (h:RI W B (.slice A k c) l):Kd.C (Kd.int .i64) W A k l:=by
 have e:=RI_len h
 subst e
 exact (RI_C h).2
theorem RI_at {W:World} {B g k c:Nat} {l:List Int} (h:RI W B (.slice (some ⟨g,0,none⟩) k c) l) {i:Nat} {x:Int} (hx:l[i]? = some x):W.cell? ⟨g,i,none⟩ = some (.int .i64 x)∧W.frozen? ⟨g,i,none⟩ = false:=by
 have e:=RI_len h
 subst e
 have hl:=(List.getElem?_eq_some_iff.1 hx).1
 have h2:=own_at_of (enc:=Value.int .i64) (d:=(0:Int)) (Kd.own_of_R h) (i:Int) (by omega) (by omega)
 have e2:rdOf 0 l (i:Int) = x:=Option.some.inj ((rd_get l i hl).symm.trans hx)
 rw [Int.toNat_natCast] at h2
 exact ⟨h2.1.trans (by rw [e2]),h2.2⟩
theorem bfs_in {E:List S48} {ex:Int→Bool} {fr fl q:List Int} {st:Sts} (h:Bfs E ex fr fl q st):∀ v ∈ q,v ∈ univ E fr:=fun v hv=>by
 obtain ⟨j,hj⟩:=List.getElem?_of_mem hv
 rcases h.way j v hj with ⟨h1,_⟩|⟨i,u,j',_,_,_,h4⟩
 ·exact univ_from h1
 ·obtain ⟨_,o,x,ho,_,hot,_⟩:=h4
  exact univ_ends (otherO_ends (List.mem_of_getElem? ho) hot)
theorem bfs_len {E:List S48} {ex:Int→Bool} {fr fl q:List Int} {st:Sts} (h:Bfs E ex fr fl q st):q.length≤fr.length + 2 * E.length :=
 Nat.le_trans (h.nodup.length_le_of_subset (bfs_in h)) (univ_len E fr)
set_option maxHeartbeats 8000000 in
set_option maxRecDepth 100000 in
theorem aug93 {w0 w:World} {B xb:Nat} {A0:Option Addr} {c0:Nat} {E:List S48} {A1:Option Addr} {c1:Nat} {fr:List Int} {tt:Int} {fb g:Nat} {lb:Array Value} {fl:List Int} {ex:Int→Bool} {n:Int}
  (hE:Kd.C k48 w0 A0 E.length E) (hFr:Kd.C (Kd.int .i64) w0 A1 fr.length fr) (hc1:fr.length≤c1) (hp:PredI g lb ex w0) (eg:∀ args w,(callFunc g args).run Try.prog w = .ok (.enter g args) w)
  (hW:Below w0.heap.size w0 w) (hN:NetB w xb A0 c0 E A1 c1 fr tt fb g lb) (hFl:RI w B (.slice (some ⟨fb,0,none⟩) E.length E.length) fl) (hfb:w0.heap.size≤fb)
  (hF:FlowOK E ex fr tt fl n) (ht:tt ∉ fr) (hk:∀ k ∈ univ E fr,wfI k) (htw:wfI tt) (hEl:E.length≤64) (hfl:fr.length≤64) (hnd:fr.Nodup) :
  Calls Try.prog 93 #[.pointer (some ⟨xb,0,none⟩)] w (AugOut w0 B xb A0 c0 E A1 c1 fr tt fb g lb ex n):=by
 have hu48:=Try.underlying48
 have HE:=Aside0.mk hE
 have HFR:=Aside0.mk hFr
 have HC1:=Aside0.mk hc1
 have HP:=Aside0.mk hp
 have HEG:=Aside0.mk eg
 have HW0:=Aside0.mk hW
 have HN0:=Aside0.mk hN
 have HFL:=Aside0.mk hFl
 have HFO:=Aside0.mk hF
 have HK:=Aside0.mk hk
 have HTT:=Aside0.mk ht
 have HTW:=Aside0.mk htw
 have HND:=Aside0.mk hnd
 have hxf:xb≠fb:=by
  intro e
  obtain ⟨inner,hown⟩:=Kd.R_own hFl
  obtain ⟨cells,hc⟩:=own_typed hown fb rfl
  rw [← e] at hc
  unfold NetB at hN
  rw [hN] at hc
  injection hc with hc
  injection hc with _ hc
  cases hc
 have k1:=(blk_cell hN 1).trans (show _ = some (Value.slice A1 fr.length c1) from rfl)
 clear hE hFr hc1 hp eg hW hN hFl hF ht hk htw hnd
 have HB:=Aside0.mk (Below.refl w.heap.size w)
 go_enter Try.func93,Try.ntmps93
 go_wp2_with ((with_reducible refine gate_dst (N:=17) rfl ?_);refine makeMap_event 126 rfl rfl ?_;intro bm hbm w1 hM1 hB1;have hbw:w.heap.size≤bm:=(by omega);replace k1:=pw_cell_below hB1 k1;clear hbm)
 have HM:=Aside0.mk hM1
 replace HB:=Aside0.mk hB1
 clear hM1 hB1
 refine (slices_Clone_int_int.calls A1 c1 fr fr w1 (Kd.C_below HFR.out (below_then HW0.out HW0.out.size HB.out)) HC1.out (by unfold slices_Clone_int_int.f;rw [if_pos (by omega)])).mono ?_
 rintro e w2 ⟨v2,rfl,ho2,hb2⟩
 obtain ⟨A2,c2,rfl⟩:=Kd.R_slice ho2
 have HQ:=Aside0.mk (Kd.R_lower ho2 HB.out.size)
 replace HM:=Aside0.mk (HM.out.below hb2)
 replace HB:=Aside0.mk (below_then HB.out HB.out.size hb2)
 clear ho2 hb2 k1
 go_wp2_with fail
 go_loopg [6,25] fr.length (fun gg s6 s25 wr=>∃ (kk:Nat),kk≤fr.length∧fr.length - kk≤gg∧s25 = .int .i64 kk∧Aside0 (MapV wr bm kk (sF (root0 (fr.take kk))))∧Aside0 (RI wr w.heap.size (.slice A2 fr.length c2) fr)∧Aside0 (Below w.heap.size w wr))
 case atStart =>
  refine ⟨0,Nat.zero_le _,by omega,rfl,⟨?_⟩,HQ,HB⟩
  have e:sF (root0 (fr.take 0)) = fun _=>none:=by funext j;unfold sF root0;rw [List.take_zero,if_neg (by simp)];rfl
  rw [e]
  exact HM.out
 case round =>
  clear HM HQ HB
  obtain ⟨kk,hkk,hg,rfl,HM,HQ,HB⟩:=hrel
  by_cases hlt:kk < fr.length
  ·have hltz:(kk:Int) < (fr.length:Int):=by omega
   obtain ⟨ad,e,h0⟩:=int_at (RI_C HQ.out).2 kk hltz
   cases e
   have HG:=Aside0.mk (rd_get fr kk hlt)
   generalize rdOf 0 fr (kk:Int) = x at h0 HG
   have HXW:=Aside0.mk (HK.out x (univ_from (List.mem_of_getElem? HG.out)))
   go_wp2_with (at_mapUpdate;refine MapV.update HM.out 126 128 Try.underlying126 rfl _ _ _ rfl rfl (by omega) x (.agg #[.int .i64 (-1),.int .i64 (-1)]) rfl rfl HXW.out ?_;intro w6 hM6 hG6)
   go_roundg (fr.length - (kk + 1))
   case measure=>omega
   case rel =>
    refine ⟨kk + 1,by omega,by omega,by go_num,⟨?_⟩,⟨R_map HQ.out HM.out hG6⟩,⟨pw_below_grown HB.out _ HB.out.size hG6 (fun k hk=>by injection hk with hk;omega)⟩⟩
    have h:=hM6
    rw [sF_put,root0_snoc,← take_snoc_of HG.out] at h
    exact h
  ·have hltz:¬ (kk:Int) < (fr.length:Int):=by omega
   replace HM:=Aside0.mk (show MapV wr bm fr.length (sF (root0 fr)) by have h:=HM.out.up hkk;rwa [List.take_of_length_le (by omega)] at h)
   have HBF:=Aside0.mk (bfs_root E ex fr fl HND.out)
   go_wp2_with fail
   go_loopg [4,7,8,9,10,11,12] 200 (fun gg s4 s7 s8 s9 s10 s11 s12 wr=>∃ (kq:Nat) (q:List Int) (st:Sts) (AQ:Option Addr) (cq:Nat),192 - kq≤gg∧kq≤q.length∧q.length≤192∧s4 = .slice AQ q.length cq∧s7 = .int .i64 kq∧Aside0 (Bfs E ex fr fl q st)∧Aside0 (∀ s ∈ fr,s ∈ q)
    ∧ Aside0 (∀ (j:Nat) (u:Int),j < kq→q[j]? = some u→∀ (i v:Int),Res E ex fl i u v→v ∈ q)∧Aside0 (MapV wr bm q.length (sF st))∧Aside0 (RI wr w.heap.size (.slice AQ q.length cq) q)∧Aside0 (Below w.heap.size w wr))
   case atStart=>exact ⟨0,fr,root0 fr,_,_,by omega,Nat.zero_le _,by omega,rfl,rfl,HBF,⟨fun s hs=>hs⟩,⟨fun j u hj=>absurd hj (Nat.not_lt_zero _)⟩,HM,HQ,HB⟩
   case round =>
    clear HM HQ HB HBF
    obtain ⟨kq,q,st,AQ,cq,hgq,hkq,hql,rfl,rfl,HBF,HSU,HSC,HM,HQ,HB⟩:=hrel
    by_cases hlt:kq < q.length
    ·have hltz:(kq:Int) < (q.length:Int):=by omega
     have hltn:=decide_eq_true hlt
     have k0:=pw_cell_below HB.out ((blk_cell HN0.out 0).trans (show _ = some (Value.slice A0 E.length c0) from rfl))
     obtain ⟨u,hu⟩:∃ u,q[kq]? = some u:=⟨_,List.getElem?_eq_getElem hlt⟩
     have HU:=Aside0.mk hu
     have HSI:=Aside0.mk (show ∀ (i v:Int),i < ((0:Nat):Int)→Res E ex fl i u v→v ∈ q from fun i v hi h=>absurd h.1 (by omega))
     clear hu
     go_wp2_with fail
     clear k0
     go_loopg [4,8,9,10,11,12,44] E.length (fun gg s4 s8 s9 s10 s11 s12 s44 wr=>∃ (jj:Nat) (q:List Int) (st:Sts) (AQ:Option Addr) (cq:Nat),jj≤E.length∧E.length - jj≤gg∧s44 = .int .i64 jj∧kq < q.length∧q.length≤192∧s4 = .slice AQ q.length cq∧Aside0 (Bfs E ex fr fl q st)∧Aside0 (∀ s ∈ fr,s ∈ q)
      ∧ Aside0 (∀ (j:Nat) (u:Int),j < kq→q[j]? = some u→∀ (i v:Int),Res E ex fl i u v→v ∈ q)∧Aside0 (q[kq]? = some u)∧Aside0 (∀ (i v:Int),i < (jj:Int)→Res E ex fl i u v→v ∈ q)∧Aside0 (MapV wr bm q.length (sF st))∧Aside0 (RI wr w.heap.size (.slice AQ q.length cq) q)∧Aside0 (Below w.heap.size w wr))
     case atStart=>exact ⟨0,q,st,AQ,cq,Nat.zero_le _,by omega,rfl,hlt,hql,rfl,HBF,HSU,HSC,HU,HSI,HM,HQ,HB⟩
     case round =>
      clear HBF HSU HSC HU HSI HM HQ HB hlt hltz hltn hql hkq
      obtain ⟨jj,q,st,AQ,cq,hjj,hg,rfl,hlt,hql,rfl,HBF,HSU,HSC,HU,HSI,HM,HQ,HB⟩:=hrel
      by_cases hlt2:jj < E.length
      ·have hltz:(jj:Int) < (E.length:Int):=by omega
       have hkqz:(kq:Int) < (q.length:Int):=by omega
       obtain ⟨ad,e,h0⟩:=int_at (RI_C HQ.out).2 kq hkqz
       cases e
       have e2:rdOf 0 q (kq:Int) = u:=Option.some.inj ((rd_get q kq hlt).symm.trans HU.out)
       rw [e2] at h0
       obtain ⟨o,ho⟩:∃ o,E[jj]? = some o:=⟨_,List.getElem?_eq_getElem hlt2⟩
       obtain ⟨x,hx⟩:∃ x,fl[jj]? = some x:=⟨_,List.getElem?_eq_getElem (by rw [HFO.out.len];exact hlt2)⟩
       have HOO:=Aside0.mk ho
       have HXX:=Aside0.mk hx
       have hBW:Below w0.heap.size w0 wr:=below_then HW0.out HW0.out.size HB.out
       have hcap:=fun {m:Int} {b:Bool} (hr:capM o x (ex jj) u = (m,b))=>cap112 (w:=w0) (W:=wr) (xb:=xb) (A0:=A0) (c0:=c0) (E:=E) (A1:=A1) (c1:=c1) (fr:=fr) (tt:=tt) (fb:=fb) (g:=g) (lb:=lb) (fl:=fl) (ex:=ex) jj u o x (blk_below HN0.out HB.out) (Kd.C_below HE.out hBW) (RI_C2 (Kd.R_below HFL.out HB.out)) hBW HP.out HEG.out ho hx hr
       have HCAP:=Aside0.mk @hcap
       clear hcap hBW ho hx e2
       cases hcm:capM o x (ex jj) u with
       | mk m b =>
        have HCM:=Aside0.mk hcm
        cases b with
        | false =>
         have hc:=HCAP.out hcm
         clear hcm
         go_wp2_with fail
         refine hc.mono ?_
         rintro e w5 ⟨rfl,hb5⟩
         have HM5:=Aside0.mk (HM.out.below hb5)
         have HQ5:=Aside0.mk (Kd.R_below HQ.out hb5)
         have HB5:=Aside0.mk (below_then HB.out HB.out.size hb5)
         clear hb5 hc h0
         have hmw:wfI m:=by
          have h:=HCM.out
          unfold capM at h
          cases hot:otherO o u with
          | none=>rw [hot] at h;injection h with h _;subst h;exact wfI_0
          | some m1 =>
           rw [hot] at h
           have hm1:=HK.out m1 (univ_ends (otherO_ends (List.mem_of_getElem? HOO.out) hot))
           cases hex:ex jj with
           | true=>rw [hex] at h;injection h with h _;subst h;exact wfI_0
           | false=>rw [hex] at h;injection h with h _;subst h;exact hm1
         have HMW:=Aside0.mk hmw
         clear hmw
         have HRS:=Aside0.mk (show ∀ (i v:Int),i < ((jj + 1:Nat):Int)→Res E ex fl i u v→v ∈ q from fun i v hi hr=>by
          by_cases e:i < (jj:Int)
          ·exact HSI.out i v e hr
          ·have hi2:i = (jj:Int):=by omega
           subst hi2
           have:=res_cap HOO.out HXX.out hr
           rw [HCM.out] at this
           injection this with _ this
           cases this)
         cases hst:st m with
         | none =>
          have HST:=Aside0.mk (sF_none hst)
          clear hst
          go_wp2_with (at_lookup;refine MapV.lookup_none HM5.out HST.out 126 128 (.agg #[.int .i64 0,.int .i64 0]) Try.underlying126 zero128 rfl _ _ rfl rfl rfl HMW.out ?_)
          go_roundg (E.length - (jj + 1))
          case measure=>omega
          case rel =>
           exact ⟨jj + 1,q,st,_,cq,by omega,by omega,by go_num,hlt,hql,rfl,HBF,HSU,HSC,HU,HRS,⟨HM5.out.below (below_alloc (Below.refl _ _) _)⟩,⟨Kd.R_below HQ5.out (below_alloc (Below.refl _ _) _)⟩,⟨below_alloc HB5.out _⟩⟩
         | some p =>
          obtain ⟨pi,pu⟩:=p
          have HST:=Aside0.mk (sF_some hst)
          clear hst
          go_wp2_with (at_lookup;refine MapV.lookup_some HM5.out HST.out 126 128 (.agg #[.int .i64 0,.int .i64 0]) Try.underlying126 zero128 rfl _ _ rfl rfl rfl HMW.out ?_)
          go_roundg (E.length - (jj + 1))
          case measure=>omega
          case rel =>
           exact ⟨jj + 1,q,st,_,cq,by omega,by omega,by go_num,hlt,hql,rfl,HBF,HSU,HSC,HU,HRS,⟨HM5.out.below (below_alloc (Below.refl _ _) _)⟩,⟨Kd.R_below HQ5.out (below_alloc (Below.refl _ _) _)⟩,⟨below_alloc HB5.out _⟩⟩
        | true =>
         have hc:=HCAP.out hcm
         have HRES:=Aside0.mk (cap_res (ex:=ex) HOO.out HXX.out hcm)
         clear hcm
         have hot:otherO o u = some m:=by
          obtain ⟨_,o2,x2,h1,_,h3,_⟩:=HRES.out
          rw [Int.toNat_natCast,HOO.out] at h1
          injection h1 with h1
          rw [h1];exact h3
         have HMW:=Aside0.mk (HK.out m (univ_ends (otherO_ends (List.mem_of_getElem? HOO.out) hot)))
         clear hot
         go_wp2_with fail
         refine hc.mono ?_
         rintro e w5 ⟨rfl,hb5⟩
         have HM5:=Aside0.mk (HM.out.below hb5)
         have HQ5:=Aside0.mk (Kd.R_below HQ.out hb5)
         have HB5:=Aside0.mk (below_then HB.out HB.out.size hb5)
         replace h0:=pw_cell_below hb5 h0
         clear hb5 hc
         cases hst:st m with
         | some p =>
          obtain ⟨pi,pu⟩:=p
          have HST:=Aside0.mk (sF_some hst)
          have HMQ:=Aside0.mk ((HBF.out.known m).1 (by rw [hst];rfl))
          clear hst h0
          have HRS:=Aside0.mk (show ∀ (i v:Int),i < ((jj + 1:Nat):Int)→Res E ex fl i u v→v ∈ q from fun i v hi hr=>by
           by_cases e:i < (jj:Int)
           ·exact HSI.out i v e hr
           ·have hi2:i = (jj:Int):=by omega
            subst hi2
            have:=res_cap HOO.out HXX.out hr
            rw [HCM.out] at this
            injection this with this _
            subst this
            exact HMQ.out)
          go_wp2_with (at_lookup;refine MapV.lookup_some HM5.out HST.out 126 128 (.agg #[.int .i64 0,.int .i64 0]) Try.underlying126 zero128 rfl _ _ rfl rfl rfl HMW.out ?_)
          go_roundg (E.length - (jj + 1))
          case measure=>omega
          case rel =>
           exact ⟨jj + 1,q,st,_,cq,by omega,by omega,by go_num,hlt,hql,rfl,HBF,HSU,HSC,HU,HRS,⟨HM5.out.below (below_alloc (Below.refl _ _) _)⟩,⟨Kd.R_below HQ5.out (below_alloc (Below.refl _ _) _)⟩,⟨below_alloc HB5.out _⟩⟩
         | none =>
          have HST:=Aside0.mk (sF_none hst)
          have HBF2:=Aside0.mk (HBF.out.add hst HU.out HRES.out)
          clear hst
          have hq2:q.length + 1≤192:=by have:=bfs_len HBF2.out;simp at this;omega
          have HM6:=Aside0.mk (HM5.out.below (below_alloc (Below.refl w5.heap.size w5) (.cells #[.int .i64 0,.int .i64 0] 128)))
          have HQ6:=Aside0.mk (Kd.R_below HQ5.out (below_alloc (Below.refl w5.heap.size w5) (.cells #[.int .i64 0,.int .i64 0] 128)))
          have HB6:=Aside0.mk (below_alloc HB5.out (.cells #[.int .i64 0,.int .i64 0] 128))
          have h6:=pw_cell_below (below_alloc (Below.refl w5.heap.size w5) (.cells #[.int .i64 0,.int .i64 0] 128)) h0
          clear h0 HQ5 HB5
          go_wp2_with (first
           | (at_lookup;refine MapV.lookup_none HM5.out HST.out 126 128 (.agg #[.int .i64 0,.int .i64 0]) Try.underlying126 zero128 rfl _ _ rfl rfl rfl HMW.out ?_)
           | (at_mapUpdate;refine MapV.update HM6.out 126 128 Try.underlying126 rfl _ _ _ rfl rfl (by omega) m (.agg #[.int .i64 jj,.int .i64 u]) rfl rfl HMW.out ?_;intro w7 hM7 hG7;rw [sF_put] at hM7;have HM7:=Aside0.mk hM7;have HQ7:=Aside0.mk (R_map HQ6.out HM6.out hG7);have HB7:=Aside0.mk (pw_below_grown HB6.out _ HB6.out.size hG7 (fun k hk=>by injection hk with hk;omega));clear hM7 hG7 HM5 HM6 HQ6 HB6 h6)
           | ((with_reducible refine gate_builtin (b:=.append) (xs:=#[.tmp 76,.tmp 78]) rfl ?_);at_builtin;refine Kd.R_append (Kd.int .i64) (w0:=w) w.heap.size rfl (.tmp 76) (.tmp 78) 23 3 (.int .i64 0) 8 rfl Try.underlying23 info3 rfl (by decide) (by omega) (.slice (some ad) q.length cq) q m [.int .i64 m] (fun _=>True) (fun _=>False) rfl rfl ?aP (fun _ hk=>hk.elim) ?aF ?aO ?aB ?aS ?aL ?_;(case aP=>exact rfl);(case aB=>exact bx_);(case aF=>exact (fun _ _=>trivial));(case aO=>exact rx_);(case aS=>exact below_size bx_);(case aL=>omega);intro v8 w8 ho hb hg_ hat;have HQ8:=Aside0.mk ho;have HB8:=Aside0.mk hb;have HG8:=Aside0.mk hg_;clear ho hb hg_ hat))
          have hmv:MapV w8 bm (q.length + 1) (sF fun j=>if j = m then some ((jj:Int),u) else st j):=by
           refine HM7.out.grown HG8.out (fun e=>?_)
           obtain ⟨es,ck,hbk⟩:=HM7.out.blk
           obtain ⟨inner,hown⟩:=Kd.R_own HQ7.out
           obtain ⟨cells,hc⟩:=own_typed hown bm e.symm
           rw [hbk] at hc
           cases hc
          have HMV:=Aside0.mk hmv
          clear hmv
          obtain ⟨A8,c8,e8⟩:=Kd.R_slice HQ8.out
          subst e8
          obtain ⟨q8,hq8⟩:∃ q8,q8 = q ++ [m]:=⟨_,rfl⟩
          have hq8l:q8.length = q.length + 1:=by rw [hq8];simp
          have HQQ:=Aside0.mk hq8
          rw [← hq8] at HQ8 HBF2
          clear hq8
          go_roundg (E.length - (jj + 1))
          case measure=>omega
          case rel =>
           refine ⟨jj + 1,q8,_,A8,c8,by omega,by omega,by go_num,by omega,by omega,by rw [HQQ.out],HBF2,⟨fun s hs=>by rw [HQQ.out];exact List.mem_append.2 (.inl (HSU.out s hs))⟩,⟨fun j u2 hj hu2 i v hr=>?_⟩,⟨?_⟩,⟨fun i v hi hr=>?_⟩,⟨by rw [hq8l];exact HMV.out⟩,HQ8,HB8⟩
           ·rw [HQQ.out,List.getElem?_append_left (by omega)] at hu2
            rw [HQQ.out]
            exact List.mem_append.2 (.inl (HSC.out j u2 hj hu2 i v hr))
           ·rw [HQQ.out,List.getElem?_append_left hlt];exact HU.out
           ·rw [HQQ.out]
            by_cases e:i < (jj:Int)
            ·exact List.mem_append.2 (.inl (HSI.out i v e hr))
            ·have hi2:i = (jj:Int):=by omega
             subst hi2
             have:=res_cap HOO.out HXX.out hr
             rw [HCM.out] at this
             injection this with this _
             subst this
             simp
      ·have hltz:¬ (jj:Int) < (E.length:Int):=by omega
       have HAL:=Aside0.mk (show ∀ (i v:Int),Res E ex fl i u v→v ∈ q from fun i v hr=>by
        refine HSI.out i v ?_ hr
        obtain ⟨_,o,x,ho,_⟩:=hr
        have:=(List.getElem?_eq_some_iff.1 ho).1
        omega)
       go_wp2_with fail
       go_roundg (192 - (kq + 1))
       case measure=>omega
       case rel =>
        refine ⟨kq + 1,q,st,AQ,cq,by omega,by omega,hql,rfl,by go_num,HBF,HSU,⟨fun j u2 hj hu2 i v hr=>?_⟩,HM,HQ,HB⟩
        by_cases e:j = kq
        ·subst e
         rw [HU.out] at hu2
         injection hu2 with hu2
         subst hu2
         exact HAL.out i v hr
        ·exact HSC.out j u2 (by omega) hu2 i v hr
    ·have hltz:¬ (kq:Int) < (q.length:Int):=by omega
     have hltn:=decide_eq_false hlt
     have HSA:=Aside0.mk (show ∀ (j:Nat) (u:Int),q[j]? = some u→∀ (i v:Int),Res E ex fl i u v→v ∈ q from fun j u hj=>HSC.out j u (by have:=(List.getElem?_eq_some_iff.1 hj).1;omega) hj)
     have k2:=pw_cell_below HB.out ((blk_cell HN0.out 2).trans (show _ = some (Value.int .i64 tt) from rfl))
     cases hst:st tt with
     | none =>
      have HST:=Aside0.mk (sF_none hst)
      have HMC:=Aside0.mk (bfs_done HTT.out HFO.out HBF.out HSU.out HSA.out hst)
      clear hst
      go_wp2_with (at_lookup;refine MapV.lookup_none HM.out HST.out 126 128 (.agg #[.int .i64 0,.int .i64 0]) Try.underlying126 zero128 rfl _ _ rfl rfl rfl HTW.out ?_)
      go_ret
      have hbA:Below w.heap.size w (wr.alloc (.cells #[.int .i64 0,.int .i64 0] 128)):=below_alloc HB.out _
      exact ⟨false,fl,rfl,below_then HW0.out HW0.out.size hbA,blk_below HN0.out hbA,Kd.R_below HFL.out hbA,HFO.out,fun _=>HMC.out⟩
     | some p =>
      obtain ⟨pi,pu⟩:=p
      have HST:=Aside0.mk (sF_some hst)
      have hjt:∃ jt,q[jt]? = some tt:=List.getElem?_of_mem ((HBF.out.known tt).1 (by rw [hst];rfl))
      obtain ⟨jt,hjt⟩:=hjt
      have HBK:=Aside0.mk (Back.start (q:=q) (st:=st) HFO.out hjt)
      have hjl:=(List.getElem?_eq_some_iff.1 hjt).1
      clear hst hjt
      have hbA:Below wr.heap.size wr (wr.alloc (.cells #[.int .i64 pi,.int .i64 pu] 128)):=below_alloc (Below.refl _ _) _
      have HMA:=Aside0.mk (HM.out.below hbA)
      have HBA:=Aside0.mk (below_then HB.out HB.out.size hbA)
      have k2b:=pw_cell_below hbA k2
      clear hbA
      go_wp2_with (at_lookup;refine MapV.lookup_some HM.out HST.out 126 128 (.agg #[.int .i64 0,.int .i64 0]) Try.underlying126 zero128 rfl _ _ rfl rfl rfl HTW.out ?_)
      clear k2 k2b
      have hA0:Below w0.heap.size w0 (wr.alloc (.cells #[.int .i64 pi,.int .i64 pu] 128)):=below_then HW0.out HW0.out.size HBA.out
      have HN1:=Aside0.mk (blk_below HN0.out HBA.out)
      have HF1:=Aside0.mk (Kd.R_below HFL.out HBA.out)
      have HBO:=Aside0.mk hA0
      clear hA0 HB HM HBA
      go_loopg [15,16] jt (fun gg s15 s16 wr=>∃ (jb:Nat) (v:Int) (f1:List Int),jb≤gg∧s15 = .int .i64 v∧Aside0 (Back E ex fr tt fl q st n f1 jb v)∧Aside0 (MapV wr bm q.length (sF st))∧Aside0 (NetB wr xb A0 c0 E A1 c1 fr tt fb g lb)∧Aside0 (RI wr B (.slice (some ⟨fb,0,none⟩) E.length E.length) f1)∧Aside0 (Below w0.heap.size w0 wr))
      case atStart=>exact ⟨jt,tt,fl,Nat.le_refl _,rfl,HBK,HMA,HN1,HF1,HBO⟩
      case round =>
       clear HBK HMA HN1 HF1 HBO
       obtain ⟨jb,v,f1,hjb,rfl,HBK,HM,HN,HF1,HBO⟩:=hrel
       have HVQ:=Aside0.mk (List.mem_of_getElem? HBK.out.here)
       have HVW:=Aside0.mk (HK.out v (bfs_in HBF.out v HVQ.out))
       obtain ⟨p,hp⟩:=Option.isSome_iff_exists.1 ((HBF.out.known v).2 HVQ.out)
       obtain ⟨i,u⟩:=p
       have HSV:=Aside0.mk (sF_some hp)
       have HPV:=Aside0.mk hp
       clear hp
       have hfi:∀ W:World,(Instr.field 128 (.agg #[.int .i64 i,.int .i64 u]) 0).run Try.prog W = .ok (.int .i64 i) W:=fun W=>by kernel_rfl
       by_cases hi:0≤i
       case neg =>
        have HFIN:=Aside0.mk (Back.root HBF.out HBK.out HPV.out hi)
        have hid:decide (0≤i) = false:=decide_eq_false hi
        clear HST
        go_wp2_with (at_lookup;refine MapV.get_some HM.out HSV.out 126 128 (.agg #[.int .i64 0,.int .i64 0]) Try.underlying126 zero128 rfl _ _ rfl rfl rfl HVW.out ?_)
        go_ret
        exact ⟨true,f1,rfl,HBO.out,HN.out,HF1.out,HFIN.out,fun h=>by cases h⟩
       obtain ⟨o,x,j',ho,hx,hjj,hback⟩:=Back.step HBF.out HBK.out HPV.out hi
       obtain ⟨iN,hiN⟩:∃ iN:Nat,i = (iN:Int):=⟨i.toNat,by omega⟩
       subst hiN
       rw [Int.toNat_natCast] at ho hx hback
       have hxb:=HBK.out.bnd iN x hx
       have hx1:-1≤x:=hxb.1
       have hx2:x≤1:=hxb.2.1
       have HBN:=Aside0.mk hback
       have hil:=(List.getElem?_eq_some_iff.1 ho).1
       have hilz:(iN:Int) < (E.length:Int):=by omega
       obtain ⟨ad,e,_,_,e2,_⟩:=at_T48 (Kd.C_below HE.out HBO.out) iN (by omega) hilz
       have ho2:rd_T48 E (iN:Int) = o:=Option.some.inj ((rd48_get E iN hil).symm.trans ho)
       rw [ho2] at e2
       simp only [Int.toNat_natCast] at e2
       have HOX:=Aside0.mk hx
       have hjs:=Aside0.mk hjj
       clear hxb hback ho hx ho2 HST hi
       cases e
       have hid:decide ((0:Int)≤(iN:Int)) = true:=decide_eq_true (by omega)
       go_wp2_with (at_lookup;refine MapV.get_some HM.out HSV.out 126 128 (.agg #[.int .i64 0,.int .i64 0]) Try.underlying126 zero128 rfl _ _ rfl rfl rfl HVW.out ?_)
       clear hfi
       generalize hw6:wr.alloc (.cells #[.int .i64 (iN:Int),.int .i64 u] 128) = w6
       have HBS:=Aside0.mk (show w6.heap[wr.heap.size]? = some (.cells #[.int .i64 (iN:Int),.int .i64 u] 128 (0,0)) by rw [← hw6];exact blk_new _ _)
       have hBl:Below wr.heap.size wr w6:=by rw [← hw6];exact below_alloc (Below.refl _ _) _
       replace HM:=Aside0.mk (HM.out.below hBl)
       replace HN:=Aside0.mk (blk_below HN.out hBl)
       replace HF1:=Aside0.mk (Kd.R_below HF1.out hBl)
       replace HBO:=Aside0.mk (below_then HBO.out HBO.out.size hBl)
       replace e2:=pw_cell_below hBl e2
       obtain ⟨bs,hbs⟩:∃ bs,bs = wr.heap.size:=⟨_,rfl⟩
       rw [← hbs] at HBS ⊢
       have hbf:bs≠fb:=by
        intro e
        obtain ⟨inner,hown⟩:=Kd.R_own HF1.out
        obtain ⟨cells,hc⟩:=own_typed hown fb rfl
        rw [← e,HBS.out] at hc
        injection hc with hc
        injection hc with _ hc
        cases hc
       have HE2:=Aside0.mk e2
       clear hw6 hBl hbs e2
       have k0:w6.cell? ⟨xb,0,none⟩ = some (.slice (some ad) E.length c0):=(blk_cell HN.out 0).trans rfl
       have k3:w6.cell? ⟨xb,3,none⟩ = some (.slice (some ⟨fb,0,none⟩) E.length E.length):=(blk_cell HN.out 3).trans rfl
       have s0:w6.cell? ⟨bs,0,none⟩ = some (.int .i64 (iN:Int)):=(blk_cell HBS.out 0).trans rfl
       have s1:w6.cell? ⟨bs,1,none⟩ = some (.int .i64 u):=(blk_cell HBS.out 1).trans rfl
       obtain ⟨q0,z0⟩:=RI_at HF1.out HOX.out
       have K0:=Aside0.mk k0
       have K3:=Aside0.mk k3
       have S0:=Aside0.mk s0
       have S1:=Aside0.mk s1
       have Q0:=Aside0.mk q0
       have Z0:=Aside0.mk z0
       clear k0 k3 s0 s1 q0 z0
       refine start_ (n:=11) (S:=fun w'=>w'.cell? ⟨xb,0,none⟩ = some (.slice (some ad) E.length c0)∧w'.cell? ⟨bs,0,none⟩ = some (.int .i64 (iN:Int))∧w'.cell? ⟨(ad.add (iN * 7)).block,(ad.add (iN * 7)).off + 2,none⟩ = some (.int .i64 o.f2)) (ds:=[]) #[false,false,false,false,false,false,false,false,false,false,false] (by kernel_rfl) rfl rfl (⟨K0.out,S0.out,HE2.out⟩) (fun hHeld=>?_)
       refine pu_ 0 (some 104) #[true,false,false,false,false,false,false,false,false,false,false] ?_
       refine pu_ 1 (some 105) #[true,true,false,false,false,false,false,false,false,false,false] ?_
       refine pu_ 2 (some 106) #[true,true,true,false,false,false,false,false,false,false,false] ?_
       refine tk_ 3 (some 107) #[true,true,true,true,false,false,false,false,false,false,false] hHeld ?_
       refine pu_ 4 (some 108) #[true,true,true,true,true,false,false,false,false,false,false] ?_
       refine tk_ 5 (some 109) #[true,true,true,true,true,true,false,false,false,false,false] hHeld ?_
       refine pu_ 6 (some 110) #[true,true,true,true,true,true,true,false,false,false,false] ?_
       refine pu_ 7 (some 111) #[true,true,true,true,true,true,true,true,false,false,false] ?_
       refine tk_ 8 (some 112) #[true,true,true,true,true,true,true,true,true,false,false] hHeld ?_
       refine pu_ 9 (some 113) #[true,true,true,true,true,true,true,true,true,true,false] ?_
       refine pu_ 10 (some 114) #[true,true,true,true,true,true,true,true,true,true,true] ?_
       refine done_ (by kernel_rfl) ?_
       cases htv:(o.f2 == v) with
       | true =>
        have hbk:Back E ex fr tt fl q st n (f1.set iN (x + 1)) j' u:=by have h:=HBN.out;rwa [if_pos (beq_iff_eq.1 htv)] at h
        have HBN2:=Aside0.mk hbk
        clear hbk
        go_wp2_with fail
        clear htv hid
        have hwr:IntKind.i64.wrap (x + 1) = x + 1:=IntWalk.i64_in _ (by omega)
        have z0:=Z0.out
        refine start_ (n:=11) (S:=fun w'=>w'.cell? ⟨xb,3,none⟩ = some (.slice (some ⟨fb,0,none⟩) E.length E.length)∧w'.cell? ⟨bs,0,none⟩ = some (.int .i64 (iN:Int))∧w'.cell? ⟨fb,iN,none⟩ = some (.int .i64 x)) (ds:=[10]) #[false,false,false,false,false,false,false,false,false,false,false] (by kernel_rfl) rfl rfl (⟨K3.out,S0.out,Q0.out⟩) (fun hHeld=>?_)
        refine pu_ 0 (some 115) #[true,false,false,false,false,false,false,false,false,false,false] ?_
        refine pu_ 1 (some 116) #[true,true,false,false,false,false,false,false,false,false,false] ?_
        refine pu_ 2 (some 117) #[true,true,true,false,false,false,false,false,false,false,false] ?_
        refine tk_ 3 (some 118) #[true,true,true,true,false,false,false,false,false,false,false] hHeld ?_
        refine pu_ 4 (some 119) #[true,true,true,true,true,false,false,false,false,false,false] ?_
        refine tk_ 5 (some 120) #[true,true,true,true,true,true,false,false,false,false,false] hHeld ?_
        refine pu_ 6 (some 121) #[true,true,true,true,true,true,true,false,false,false,false] ?_
        refine tk_ 7 (some 122) #[true,true,true,true,true,true,true,true,false,false,false] hHeld ?_
        refine pu_ 8 (some 123) #[true,true,true,true,true,true,true,true,true,false,false] ?_
        refine pu_ 9 (some 124) #[true,true,true,true,true,true,true,true,true,true,false] ?_
        refine last_ (i:=10) (N:=none) #[true,true,true,true,true,true,true,true,true,true,true] rfl rfl (by kernel_rfl) (by decide) (fun K hK=>?_)
        refine skip_ (w1:=?_) (by rfl) rfl ?_ ?_
        rotate_left
        ·go_simp
         rfl
        refine hK.out _ _ ?_
        clear hK K
        refine done_ (by kernel_rfl) ?_
        obtain ⟨ho7,hg7⟩:=Kd.R_putg (h1:=fun _=>rfl) HF1.out (iN:Int) (x + 1)
        rw [Int.toNat_natCast] at ho7 hg7
        generalize hw7:w6.setCell ⟨fb,iN,none⟩ (.int .i64 (x + 1)) = w7 at ho7 hg7 ⊢
        have hbmf:bm≠fb:=by
         intro e
         obtain ⟨es,ck,hbk⟩:=HM.out.blk
         obtain ⟨inner,hown⟩:=Kd.R_own HF1.out
         obtain ⟨cells,hc⟩:=own_typed hown fb rfl
         rw [← e,hbk] at hc
         cases hc
        have hm7:=HM.out.grown hg7 (fun e=>hbmf (Option.some.inj e))
        have hn7:=blk_grown HN.out hg7 (fun e=>hxf (Option.some.inj e))
        have hs7:=blk_grown HBS.out hg7 (fun e=>hbf (Option.some.inj e))
        have ho0:=pw_below_grown HBO.out _ HBO.out.size hg7 (fun k hk=>by injection hk with hk;omega)
        have hd7:Below w7.heap.size w7 w7.drew.drew:=pw_below_drewN (Below.refl _ _) 2
        generalize hw8:w7.drew.drew = w8 at hd7 ⊢
        have HM8:=Aside0.mk (hm7.below hd7)
        have HN8:=Aside0.mk (blk_below hn7 hd7)
        have HF8:=Aside0.mk (Kd.R_below ho7 hd7)
        have HB8:=Aside0.mk (below_then ho0 ho0.size hd7)
        have s1:w8.cell? ⟨bs,1,none⟩ = some (.int .i64 u):=(blk_cell (blk_below hs7 hd7) 1).trans rfl
        clear hm7 hn7 hs7 ho0 hd7 hw8 hg7 ho7 hw7 z0 hwr
        clear hHeld
        clear HM HN HF1 HBO HBS HE2 K0 K3 S0 S1 Q0 Z0
        go_wp2_with fail
        go_roundg j'
        case measure=>have:=hjs.out;omega
        case rel=>exact ⟨j',u,_,Nat.le_refl _,rfl,HBN2,HM8,HN8,HF8,HB8⟩
       | false =>
        have hbk:Back E ex fr tt fl q st n (f1.set iN (x - 1)) j' u:=by have h:=HBN.out;rwa [if_neg (fun e=>by rw [beq_iff_eq.2 e] at htv;cases htv)] at h
        have HBN2:=Aside0.mk hbk
        clear hbk
        go_wp2_with fail
        clear htv hid
        have hwr:IntKind.i64.wrap (x - 1) = x - 1:=IntWalk.i64_in _ (by omega)
        have z0:=Z0.out
        refine start_ (n:=11) (S:=fun w'=>w'.cell? ⟨xb,3,none⟩ = some (.slice (some ⟨fb,0,none⟩) E.length E.length)∧w'.cell? ⟨bs,0,none⟩ = some (.int .i64 (iN:Int))∧w'.cell? ⟨fb,iN,none⟩ = some (.int .i64 x)) (ds:=[10]) #[false,false,false,false,false,false,false,false,false,false,false] (by kernel_rfl) rfl rfl (⟨K3.out,S0.out,Q0.out⟩) (fun hHeld=>?_)
        refine pu_ 0 (some 125) #[true,false,false,false,false,false,false,false,false,false,false] ?_
        refine pu_ 1 (some 126) #[true,true,false,false,false,false,false,false,false,false,false] ?_
        refine pu_ 2 (some 127) #[true,true,true,false,false,false,false,false,false,false,false] ?_
        refine tk_ 3 (some 128) #[true,true,true,true,false,false,false,false,false,false,false] hHeld ?_
        refine pu_ 4 (some 129) #[true,true,true,true,true,false,false,false,false,false,false] ?_
        refine tk_ 5 (some 130) #[true,true,true,true,true,true,false,false,false,false,false] hHeld ?_
        refine pu_ 6 (some 131) #[true,true,true,true,true,true,true,false,false,false,false] ?_
        refine tk_ 7 (some 132) #[true,true,true,true,true,true,true,true,false,false,false] hHeld ?_
        refine pu_ 8 (some 133) #[true,true,true,true,true,true,true,true,true,false,false] ?_
        refine pu_ 9 (some 134) #[true,true,true,true,true,true,true,true,true,true,false] ?_
        refine last_ (i:=10) (N:=none) #[true,true,true,true,true,true,true,true,true,true,true] rfl rfl (by kernel_rfl) (by decide) (fun K hK=>?_)
        refine skip_ (w1:=?_) (by rfl) rfl ?_ ?_
        rotate_left
        ·go_simp
         rfl
        refine hK.out _ _ ?_
        clear hK K
        refine done_ (by kernel_rfl) ?_
        obtain ⟨ho7,hg7⟩:=Kd.R_putg (h1:=fun _=>rfl) HF1.out (iN:Int) (x - 1)
        rw [Int.toNat_natCast] at ho7 hg7
        generalize hw7:w6.setCell ⟨fb,iN,none⟩ (.int .i64 (x - 1)) = w7 at ho7 hg7 ⊢
        have hbmf:bm≠fb:=by
         intro e
         obtain ⟨es,ck,hbk⟩:=HM.out.blk
         obtain ⟨inner,hown⟩:=Kd.R_own HF1.out
         obtain ⟨cells,hc⟩:=own_typed hown fb rfl
         rw [← e,hbk] at hc
         cases hc
        have hm7:=HM.out.grown hg7 (fun e=>hbmf (Option.some.inj e))
        have hn7:=blk_grown HN.out hg7 (fun e=>hxf (Option.some.inj e))
        have hs7:=blk_grown HBS.out hg7 (fun e=>hbf (Option.some.inj e))
        have ho0:=pw_below_grown HBO.out _ HBO.out.size hg7 (fun k hk=>by injection hk with hk;omega)
        have hd7:Below w7.heap.size w7 w7.drew.drew:=pw_below_drewN (Below.refl _ _) 2
        generalize hw8:w7.drew.drew = w8 at hd7 ⊢
        have HM8:=Aside0.mk (hm7.below hd7)
        have HN8:=Aside0.mk (blk_below hn7 hd7)
        have HF8:=Aside0.mk (Kd.R_below ho7 hd7)
        have HB8:=Aside0.mk (below_then ho0 ho0.size hd7)
        have s1:w8.cell? ⟨bs,1,none⟩ = some (.int .i64 u):=(blk_cell (blk_below hs7 hd7) 1).trans rfl
        clear hm7 hn7 hs7 ho0 hd7 hw8 hg7 ho7 hw7 z0 hwr
        clear hHeld
        clear HM HN HF1 HBO HBS HE2 K0 K3 S0 S1 Q0 Z0
        go_wp2_with fail
        go_roundg j'
        case measure=>have:=hjs.out;omega
        case rel=>exact ⟨j',u,_,Nat.le_refl _,rfl,HBN2,HM8,HN8,HF8,HB8⟩
theorem flow_zero (E:List S48) (ex:Int→Bool) (fr:List Int) (tt:Int):FlowOK E ex fr tt (List.replicate E.length 0) 0 :=
 ⟨List.length_replicate,fun i x hx=>by have:=List.eq_of_mem_replicate (List.mem_of_getElem? hx);subst this;exact ⟨by omega,by omega,fun _=>rfl⟩,fun p _ _=>dotP_zero p E _⟩
def MostOut (B:Nat) (A0:Option Addr) (c0:Nat) (E:List S48) (A1:Option Addr) (c1:Nat) (fr:List Int) (tt:Int) (g:Nat) (lb:Array Value) (ex:Int→Bool) (w0:World) (e:Ending) (w':World):Prop :=
 ∃ (xb fb:Nat) (fl:List Int),e = .returned (.tuple #[.int .i64 (mc (keepF ex 0 E) fr tt:Nat),.pointer (some ⟨xb,0,none⟩)])∧Below w0.heap.size w0 w'∧NetB w' xb A0 c0 E A1 c1 fr tt fb g lb∧RI w' B (.slice (some ⟨fb,0,none⟩) E.length E.length) fl∧FlowOK E ex fr tt fl (mc (keepF ex 0 E) fr tt:Nat)
set_option maxHeartbeats 4000000 in
set_option maxRecDepth 100000 in
theorem most62 {w:World} {A0:Option Addr} {c0:Nat} {E:List S48} {A1:Option Addr} {c1:Nat} {fr:List Int} {tt:Int} {g:Nat} {lb:Array Value} {ex:Int→Bool}
  (hE:Kd.C k48 w A0 E.length E) (hFr:Kd.C (Kd.int .i64) w A1 fr.length fr) (hc1:fr.length≤c1) (hp:PredI g lb ex w) (eg:∀ args w,(callFunc g args).run Try.prog w = .ok (.enter g args) w)
  (ht:tt ∉ fr) (hk:∀ k ∈ univ E fr,wfI k) (htw:wfI tt) (hEl:E.length≤64) (hfl:fr.length≤64) (hnd:fr.Nodup) :
  Calls Try.prog 62 #[.slice A0 E.length c0,.slice A1 fr.length c1,.int .i64 tt,.func (.func g) #[] lb] w (MostOut w.heap.size A0 c0 E A1 c1 fr tt g lb ex w):=by
 have HE:=Aside0.mk hE
 have HFR:=Aside0.mk hFr
 have HP:=Aside0.mk hp
 have HEG:=Aside0.mk eg
 have hmk:=print_make (P:=Try.prog) 23 3 .i64 8 Try.underlying23 (by kernel_rfl) (by omega) E.length (by omega)
 clear hE hFr hp eg
 go_enter Try.func62,Try.ntmps62
 go_wp2_with fail
 have hown:=own_made w w.heap.size 3 .i64 E.length (Nat.le_refl _) (by omega)
 have hb1:Below w.heap.size w (w.alloc (.cells (madeCells #[.int .i64 0] E.length) 3)):=below_alloc (Below.refl _ _) _
 have hl1:=List.length_replicate (n:=E.length) (a:=(0:Int))
 have hR:RI (w.alloc (.cells (madeCells #[.int .i64 0] E.length) 3)) w.heap.size (.slice (some ⟨w.heap.size,0,none⟩) E.length E.length) (List.replicate E.length 0) :=
  Kd.R_of_own (by rw [hl1];exact hown) (fun _ _=>trivial)
 have hs1:(w.alloc (.cells (madeCells #[.int .i64 0] E.length) 3)).heap.size = w.heap.size + 1:=Array.size_push _
 rw [← hs1]
 obtain ⟨fb,hfb⟩:∃ fb,fb = w.heap.size:=⟨_,rfl⟩
 generalize hw1:w.alloc (.cells (madeCells #[.int .i64 0] E.length) 3) = w1 at hb1 hR ⊢
 have HB0:=Aside0.mk hb1
 have HR0:=Aside0.mk hR
 rw [hw1] at hs1
 rw [show (Value.slice (some ⟨w.heap.size,0,none⟩) E.length E.length) = .slice (some ⟨fb,0,none⟩) E.length E.length by rw [hfb]] at HR0 ⊢
 have hfb2:w.heap.size≤fb:=by omega
 clear hmk hown hb1 hR hl1 hw1 hs1 hfb
 have hN:NetB (w1.alloc (.cells #[.slice A0 E.length c0,.slice A1 fr.length c1,.int .i64 tt,.slice (some ⟨fb,0,none⟩) E.length E.length,.func (.func g) #[] lb] 111)) w1.heap.size A0 c0 E A1 c1 fr tt fb g lb:=blk_new _ _
 have hb2:Below w1.heap.size w1 (w1.alloc (.cells #[.slice A0 E.length c0,.slice A1 fr.length c1,.int .i64 tt,.slice (some ⟨fb,0,none⟩) E.length E.length,.func (.func g) #[] lb] 111)):=below_alloc (Below.refl _ _) _
 generalize w1.alloc (.cells #[.slice A0 E.length c0,.slice A1 fr.length c1,.int .i64 tt,.slice (some ⟨fb,0,none⟩) E.length E.length,.func (.func g) #[] lb] 111) = w2 at hN hb2 ⊢
 have HN:=Aside0.mk hN
 have HF:=Aside0.mk (Kd.R_below HR0.out hb2)
 have HB:=Aside0.mk (below_then HB0.out HB0.out.size hb2)
 generalize w1.heap.size = xb at HN ⊢
 clear hN hb2 HR0 HB0
 have HFO:=Aside0.mk (flow_zero E ex fr tt)
 go_loopg [11,21,22,23,24] E.length (fun gg s11 s21 s22 s23 s24 wr=>∃ (n:Nat) (fl:List Int),E.length - n≤gg∧n≤E.length∧s11 = .int .i64 n∧Aside0 (FlowOK E ex fr tt fl n)∧Aside0 (NetB wr xb A0 c0 E A1 c1 fr tt fb g lb)∧Aside0 (RI wr w.heap.size (.slice (some ⟨fb,0,none⟩) E.length E.length) fl)∧Aside0 (Below w.heap.size w wr))
 case atStart=>exact ⟨0,_,by omega,by omega,rfl,HFO,HN,HF,HB⟩
 case round =>
  clear HFO HN HF HB
  obtain ⟨n,fl,hg,hn,rfl,HFO,HN,HF,HB⟩:=hrel
  have hc:=aug93 (w0:=w) (w:=wr) (B:=w.heap.size) HE.out HFR.out hc1 HP.out HEG.out HB.out HN.out HF.out hfb2 HFO.out ht hk htw hEl hfl hnd
  go_wp2_with fail
  refine hc.mono ?_
  rintro e w5 ⟨b,fl',rfl,hb5,hn5,hf5,ho5,hm5⟩
  have HB5:=Aside0.mk hb5
  have HN5:=Aside0.mk hn5
  have HF5:=Aside0.mk hf5
  cases b with
  | true =>
   have ho5:FlowOK E ex fr tt fl' ((n + 1:Nat):Int):=by rw [if_pos rfl] at ho5;exact ho5
   have hle:=flow_len ht ho5
   have HO5:=Aside0.mk ho5
   clear hc hb5 hn5 hf5 hm5 ho5
   go_wp2_with fail
   go_roundg (E.length - (n + 1))
   case measure=>omega
   case rel=>exact ⟨n + 1,fl',by omega,by omega,by go_num,HO5,HN5,HF5,HB5⟩
  | false =>
   have hm:=hm5 rfl
   have ho5:FlowOK E ex fr tt fl' n:=by rw [if_neg (by decide)] at ho5;exact ho5
   have HO5:=Aside0.mk ho5
   clear hc hb5 hn5 hf5 hm5 ho5
   go_wp2_with fail
   go_ret2
   exact ⟨xb,fb,fl',by first|rfl|rw [hm],HB5.out,HN5.out,HF5.out,by first|exact HO5.out|(rw [← hm];exact HO5.out)⟩
theorem pred63 (w:World):PredI 63 #[] (fun _=>false) w:=fun W x hx hb=>by
 clear hb hx
 show Calls Try.prog 63 #[.int .i64 x] W _
 go_enter Try.func63,Try.ntmps63
 go_wp2_with fail
 go_ret
 exact ⟨rfl,Below.refl _ _⟩
set_option maxHeartbeats 1000000 in
theorem pred64 (w:World) (bm n:Nat) (S:Int→Bool) (i:Int) (bo bi:Nat) (hM:MapV w bm n (bF S)) (ho:bo < w.heap.size) (hi:bi < w.heap.size) (hco:w.cell? ⟨bo,0,none⟩ = some (.map (some bm))) (hci:w.cell? ⟨bi,0,none⟩ = some (.int .i64 i)) :
  PredI 64 #[.pointer (some ⟨bo,0,none⟩),.pointer (some ⟨bi,0,none⟩)] (fun k=>S k || k == i) w:=fun W x hx hb=>by
 have k0:W.cell? ⟨bo,0,none⟩ = some (.map (some bm)):=(hb.cell (p:=⟨bo,0,none⟩) ho).trans hco
 have k1:W.cell? ⟨bi,0,none⟩ = some (.int .i64 i):=(hb.cell (p:=⟨bi,0,none⟩) hi).trans hci
 have HM:=Aside0.mk (hM.below hb)
 have HX:=Aside0.mk hx
 clear hM ho hi hco hci hb hx
 show Calls Try.prog 64 #[.int .i64 x,.pointer (some ⟨bo,0,none⟩),.pointer (some ⟨bi,0,none⟩)] W _
 cases hs:S x with
 | true =>
  go_enter Try.func64,Try.ntmps64
  go_wp2_with (at_lookup;refine MapV.get_bool HM.out x rfl _ _ rfl rfl rfl HX.out ?_)
  go_ret
  exact ⟨by simp [hs],Below.refl _ _⟩
 | false =>
  go_enter Try.func64,Try.ntmps64
  go_wp2_with (at_lookup;refine MapV.get_bool HM.out x rfl _ _ rfl rfl rfl HX.out ?_)
  go_ret
  exact ⟨by simp [hs],Below.refl _ _⟩
attribute [local go_sem] max2_int min2_int max_two min_two max_three min_three max_four min_four
def connection_code.f (a0:Int):Option (Bool):=if a0 ≥ 0 then (some (decide (a0≤9999))) else (some false)
set_option maxHeartbeats 8000000 in
set_option maxRecDepth 100000 in
theorem connection_code.calls (a0:Int) (r:Bool) (w:World) (h:connection_code.f a0 = some r) :
  Calls Try.prog 92 #[.int .i64 a0] w fun e w'=>e = .returned (.bool r)∧Drawn0 w w':=by
 have H:(if a0 ≥ 0 then (some (decide (a0≤9999))) else (some false)) = some r:=h
 clear h
 by_cases c2:a0 ≥ 0
 ·rw [if_pos c2] at H
  have c2b0:decide (0≤a0) = true:=decide_eq_true c2
  clear c2
  obtain rfl:=Option.some.inj H
  go_enter Try.func92,Try.ntmps92
  go_wp2
  go_ret
  exact ⟨by first|rfl|(simp;done)|(simp [*];done),by repeat (first|exact Drawn0.refl _|apply Drawn0.step)⟩
 ·rw [if_neg c2] at H
  have c2b0:decide (0≤a0) = false:=decide_eq_false c2
  clear c2
  obtain rfl:=Option.some.inj H
  go_enter Try.func92,Try.ntmps92
  go_wp2
  go_ret
  exact ⟨by first|rfl|(simp;done)|(simp [*];done),by repeat (first|exact Drawn0.refl _|apply Drawn0.step)⟩
def connection_asked.f (k:Nat) (l0:List (S48)) (l1:List Int) (l2:List Int) (a3:Int):Option ((List (S48)) × Int):=(connection_chosen.f l0 l1 l2).bind fun bt239=>(if bt239.2 = 0 then ((connection_code.f a3).bind fun t243=>(if t243 = true then ((slices_Contains_int_int.f k l2 a3).bind fun t244=>(if t244 = true then (some (([]:List (S48)),10)) else (some (bt239.1,0)))) else (some (([]:List (S48)),2)))) else (some (([]:List (S48)),bt239.2)))
set_option maxHeartbeats 8000000 in
set_option maxRecDepth 100000 in
theorem connection_asked.calls (k:Nat) (A0:Option Addr) (c0:Nat) (l0:List (S48)) (A1:Option Addr) (c1:Nat) (l1:List Int) (A2:Option Addr) (c2:Nat) (l2:List Int) (a3:Int) (r1:List (S48)) (r2:Int) (w:World) (hr0:Kd.C k48 w A0 l0.length l0) (hc0:l0.length≤c0) (hr1:Kd.C (Kd.int .i64) w A1 l1.length l1) (hc1:l1.length≤c1) (hr2:Kd.C (Kd.int .i64) w A2 l2.length l2) (hc2:l2.length≤c2) (h:connection_asked.f k l0 l1 l2 a3 = some (r1,r2)) :
  Calls Try.prog 61 #[.slice A0 l0.length c0,.slice A1 l1.length c1,.slice A2 l2.length c2,.int .i64 a3] w fun e w'=>∃ v0_:Value,e = .returned (.tuple #[v0_,.int .i64 r2])∧Kd.R k48 48 w' w.heap.size (fun _=>True) v0_ r1∧Below w.heap.size w w':=by
 have HR0:=Aside0.mk hr0
 have HC0:=Aside0.mk hc0
 clear hr0 hc0
 have HR1:=Aside0.mk hr1
 have HC1:=Aside0.mk hc1
 clear hr1 hc1
 have HR2:=Aside0.mk hr2
 have HC2:=Aside0.mk hc2
 clear hr2 hc2
 have HB:=Aside0.mk (Below.refl w.heap.size w)
 have H:((connection_chosen.f l0 l1 l2).bind fun bt239=>(if bt239.2 = 0 then ((connection_code.f a3).bind fun t243=>(if t243 = true then ((slices_Contains_int_int.f k l2 a3).bind fun t244=>(if t244 = true then (some (([]:List (S48)),10)) else (some (bt239.1,0)))) else (some (([]:List (S48)),2)))) else (some (([]:List (S48)),bt239.2)))) = some (r1,r2):=h
 clear h
 replace H:=Option.bind_eq_some_iff.mp H
 obtain ⟨⟨t239,t240⟩,A50,H⟩:=H
 replace H:(if t240 = 0 then ((connection_code.f a3).bind fun t243=>(if t243 = true then ((slices_Contains_int_int.f k l2 a3).bind fun t244=>(if t244 = true then (some (([]:List (S48)),10)) else (some (t239,0)))) else (some (([]:List (S48)),2)))) else (some (([]:List (S48)),t240))) = some (r1,r2):=H
 have A5:=Aside0.mk A50
 clear A50
 by_cases c6:t240 = 0
 ·rw [if_pos c6] at H
  have c6b0:(t240 == 0) = true:=beq_iff_eq.mpr c6
  have c6b1:(t240 != 0) = false:=bne_eq_false_iff_eq.mpr c6
  clear c6
  replace H:=Option.bind_eq_some_iff.mp H
  obtain ⟨t243,A70,H⟩:=H
  replace H:(if t243 = true then ((slices_Contains_int_int.f k l2 a3).bind fun t244=>(if t244 = true then (some (([]:List (S48)),10)) else (some (t239,0)))) else (some (([]:List (S48)),2))) = some (r1,r2):=H
  have A7:=Aside0.mk A70
  clear A70
  by_cases c8:t243 = true
  ·subst c8
   have H1:((slices_Contains_int_int.f k l2 a3).bind fun t244=>(if t244 = true then (some (([]:List (S48)),10)) else (some (t239,0)))) = some (r1,r2):=by rw [if_pos rfl] at H;exact H
   clear H
   have H:=H1
   clear H1
   replace H:=Option.bind_eq_some_iff.mp H
   obtain ⟨t244,A90,H⟩:=H
   replace H:(if t244 = true then (some (([]:List (S48)),10)) else (some (t239,0))) = some (r1,r2):=H
   have A9:=Aside0.mk A90
   clear A90
   by_cases c10:t244 = true
   ·subst c10
    have H1:(some (([]:List (S48)),10)) = some (r1,r2):=by rw [if_pos rfl] at H;exact H
    clear H
    have H:=H1
    clear H1
    simp only [Option.some.injEq,Prod.mk.injEq] at H
    obtain ⟨rfl,rfl⟩:=H
    go_enter Try.func61,Try.ntmps61
    go_wp2_with (first|((with_reducible refine gate_callee (f:=46) rfl ?_);refine goesL_ (some 16) rfl rfl Try.func46 (by kernel_rfl) rfl #[.slice A0 l0.length c0,.slice A1 l1.length c1,.slice A2 l2.length c2] rfl (by (try simp only [List.map_toArray,List.map_cons,List.map_nil]);first|done|rfl|(simp only [List.length_drop,List.length_take];rfl)) ?_;(with_reducible refine (connection_chosen.calls _ _ l0 _ _ l1 _ _ l2 t239 t240 _ ?side1 ?side2 ?side3 ?side4 ?side5 ?side6 A5.out).mono ?_);(case side1=>repeat (first|exact HR0.out|(with_reducible refine Kd.C_alloc ?_ _)|(with_reducible refine Kd.C_drewN ?_ _)|(with_reducible refine Kd.C_drew ?_)));(case side2=>exact HC0.out);(case side3=>repeat (first|exact HR1.out|(with_reducible refine Kd.C_alloc ?_ _)|(with_reducible refine Kd.C_drewN ?_ _)|(with_reducible refine Kd.C_drew ?_)));(case side4=>exact HC1.out);(case side5=>repeat (first|exact HR2.out|(with_reducible refine Kd.C_alloc ?_ _)|(with_reducible refine Kd.C_drewN ?_ _)|(with_reducible refine Kd.C_drew ?_)));(case side6=>exact HC2.out);rintro e w11 ⟨v241,rfl,ho0,hb⟩;refine ⟨_,rfl,?_⟩;have n0_:=Aside0.mk (Kd.R_lower ho0 (below_size (by repeat (first|(with_reducible first|exact HB.out|apply below_alloc|apply pw_below_drewN|apply below_drew1)|exact HB.out))));have n1_:=Aside0.mk (below_step (by repeat (first|(with_reducible first|exact HB.out|apply below_alloc|apply pw_below_drewN|apply below_drew1)|exact HB.out)) hb);clear HB;have HO242:=n0_;have HB:=n1_;clear n0_ n1_;(try clear hb);(try clear hb2);(try clear hk);(try clear hi);(try clear ho0))|((with_reducible refine gate_callee (f:=92) rfl ?_);refine goesL_ (some 25) rfl rfl Try.func92 (by kernel_rfl) rfl #[.int .i64 a3] rfl (by (try simp only [List.map_toArray,List.map_cons,List.map_nil]);first|done|rfl|(simp only [List.length_drop,List.length_take];rfl)) ?_;(with_reducible refine (connection_code.calls a3 true _ A7.out).mono ?_);rintro e w' ⟨rfl,⟨nd,rfl⟩⟩;refine ⟨_,rfl,?_⟩)|((with_reducible refine gate_callee (f:=37) rfl ?_);refine goesL_ (some 30) rfl rfl Try.func37 (by kernel_rfl) rfl #[.slice A2 l2.length c2,.int .i64 a3] rfl (by (try simp only [List.map_toArray,List.map_cons,List.map_nil]);first|done|rfl|(simp only [List.length_drop,List.length_take];rfl)) ?_;(with_reducible refine (slices_Contains_int_int.calls k _ _ l2 a3 true _ ?side1 ?side2 A9.out).mono ?_);(case side1=>repeat (first|exact (Kd.C_below HR2.out (by repeat (first|(with_reducible first|exact HB.out|apply below_alloc|apply pw_below_drewN|apply below_drew1)|exact HB.out)))|(with_reducible refine Kd.C_alloc ?_ _)|(with_reducible refine Kd.C_drewN ?_ _)|(with_reducible refine Kd.C_drew ?_)));(case side2=>exact HC2.out);rintro e w' ⟨rfl,⟨nd,rfl⟩⟩;refine ⟨_,rfl,?_⟩))
    go_ret2
    exact ⟨_,by first|rfl|(simp [errW_none,errW_some]<;>rfl)|(simp [*,errW_none,errW_some]<;>rfl),by first|exact Kd.R_nil _ _ _ _ _|exact Kd.N_nil _ _ _ _ _|exact Kd.V_nil _ _ _ _ _|exact Kd.Q_nil _ _ _ _ _|exact Kd.S_nil _ _ _ _ _,by repeat (first|(with_reducible first|exact HB.out|apply below_alloc|apply pw_below_drewN|apply below_drew1)|exact HB.out)⟩
   ·replace c10:=Bool.eq_false_iff.mpr c10
    subst c10
    have H1:(some (t239,0)) = some (r1,r2):=by rw [if_neg (show ¬ (false = true) by decide)] at H;exact H
    clear H
    have H:=H1
    clear H1
    simp only [Option.some.injEq,Prod.mk.injEq] at H
    obtain ⟨rfl,rfl⟩:=H
    go_enter Try.func61,Try.ntmps61
    go_wp2_with (first|((with_reducible refine gate_callee (f:=46) rfl ?_);refine goesL_ (some 16) rfl rfl Try.func46 (by kernel_rfl) rfl #[.slice A0 l0.length c0,.slice A1 l1.length c1,.slice A2 l2.length c2] rfl (by (try simp only [List.map_toArray,List.map_cons,List.map_nil]);first|done|rfl|(simp only [List.length_drop,List.length_take];rfl)) ?_;(with_reducible refine (connection_chosen.calls _ _ l0 _ _ l1 _ _ l2 t239 t240 _ ?side1 ?side2 ?side3 ?side4 ?side5 ?side6 A5.out).mono ?_);(case side1=>repeat (first|exact HR0.out|(with_reducible refine Kd.C_alloc ?_ _)|(with_reducible refine Kd.C_drewN ?_ _)|(with_reducible refine Kd.C_drew ?_)));(case side2=>exact HC0.out);(case side3=>repeat (first|exact HR1.out|(with_reducible refine Kd.C_alloc ?_ _)|(with_reducible refine Kd.C_drewN ?_ _)|(with_reducible refine Kd.C_drew ?_)));(case side4=>exact HC1.out);(case side5=>repeat (first|exact HR2.out|(with_reducible refine Kd.C_alloc ?_ _)|(with_reducible refine Kd.C_drewN ?_ _)|(with_reducible refine Kd.C_drew ?_)));(case side6=>exact HC2.out);rintro e w12 ⟨v241,rfl,ho0,hb⟩;refine ⟨_,rfl,?_⟩;have n0_:=Aside0.mk (Kd.R_lower ho0 (below_size (by repeat (first|(with_reducible first|exact HB.out|apply below_alloc|apply pw_below_drewN|apply below_drew1)|exact HB.out))));have n1_:=Aside0.mk (below_step (by repeat (first|(with_reducible first|exact HB.out|apply below_alloc|apply pw_below_drewN|apply below_drew1)|exact HB.out)) hb);clear HB;have HO242:=n0_;have HB:=n1_;clear n0_ n1_;(try clear hb);(try clear hb2);(try clear hk);(try clear hi);(try clear ho0))|((with_reducible refine gate_callee (f:=92) rfl ?_);refine goesL_ (some 25) rfl rfl Try.func92 (by kernel_rfl) rfl #[.int .i64 a3] rfl (by (try simp only [List.map_toArray,List.map_cons,List.map_nil]);first|done|rfl|(simp only [List.length_drop,List.length_take];rfl)) ?_;(with_reducible refine (connection_code.calls a3 true _ A7.out).mono ?_);rintro e w' ⟨rfl,⟨nd,rfl⟩⟩;refine ⟨_,rfl,?_⟩)|((with_reducible refine gate_callee (f:=37) rfl ?_);refine goesL_ (some 30) rfl rfl Try.func37 (by kernel_rfl) rfl #[.slice A2 l2.length c2,.int .i64 a3] rfl (by (try simp only [List.map_toArray,List.map_cons,List.map_nil]);first|done|rfl|(simp only [List.length_drop,List.length_take];rfl)) ?_;(with_reducible refine (slices_Contains_int_int.calls k _ _ l2 a3 false _ ?side1 ?side2 A9.out).mono ?_);(case side1=>repeat (first|exact (Kd.C_below HR2.out (by repeat (first|(with_reducible first|exact HB.out|apply below_alloc|apply pw_below_drewN|apply below_drew1)|exact HB.out)))|(with_reducible refine Kd.C_alloc ?_ _)|(with_reducible refine Kd.C_drewN ?_ _)|(with_reducible refine Kd.C_drew ?_)));(case side2=>exact HC2.out);rintro e w' ⟨rfl,⟨nd,rfl⟩⟩;refine ⟨_,rfl,?_⟩))
    go_ret2
    exact ⟨_,by first|rfl|(simp [errW_none,errW_some]<;>rfl)|(simp [*,errW_none,errW_some]<;>rfl),by (with_reducible repeat (first|apply Kd.R_alloc|apply Kd.R_drewN|apply Kd.R_drew));exact HO242.out,by repeat (first|(with_reducible first|exact HB.out|apply below_alloc|apply pw_below_drewN|apply below_drew1)|exact HB.out)⟩
  ·replace c8:=Bool.eq_false_iff.mpr c8
   subst c8
   have H1:(some (([]:List (S48)),2)) = some (r1,r2):=by rw [if_neg (show ¬ (false = true) by decide)] at H;exact H
   clear H
   have H:=H1
   clear H1
   simp only [Option.some.injEq,Prod.mk.injEq] at H
   obtain ⟨rfl,rfl⟩:=H
   go_enter Try.func61,Try.ntmps61
   go_wp2_with (first|((with_reducible refine gate_callee (f:=46) rfl ?_);refine goesL_ (some 16) rfl rfl Try.func46 (by kernel_rfl) rfl #[.slice A0 l0.length c0,.slice A1 l1.length c1,.slice A2 l2.length c2] rfl (by (try simp only [List.map_toArray,List.map_cons,List.map_nil]);first|done|rfl|(simp only [List.length_drop,List.length_take];rfl)) ?_;(with_reducible refine (connection_chosen.calls _ _ l0 _ _ l1 _ _ l2 t239 t240 _ ?side1 ?side2 ?side3 ?side4 ?side5 ?side6 A5.out).mono ?_);(case side1=>repeat (first|exact HR0.out|(with_reducible refine Kd.C_alloc ?_ _)|(with_reducible refine Kd.C_drewN ?_ _)|(with_reducible refine Kd.C_drew ?_)));(case side2=>exact HC0.out);(case side3=>repeat (first|exact HR1.out|(with_reducible refine Kd.C_alloc ?_ _)|(with_reducible refine Kd.C_drewN ?_ _)|(with_reducible refine Kd.C_drew ?_)));(case side4=>exact HC1.out);(case side5=>repeat (first|exact HR2.out|(with_reducible refine Kd.C_alloc ?_ _)|(with_reducible refine Kd.C_drewN ?_ _)|(with_reducible refine Kd.C_drew ?_)));(case side6=>exact HC2.out);rintro e w13 ⟨v241,rfl,ho0,hb⟩;refine ⟨_,rfl,?_⟩;have n0_:=Aside0.mk (Kd.R_lower ho0 (below_size (by repeat (first|(with_reducible first|exact HB.out|apply below_alloc|apply pw_below_drewN|apply below_drew1)|exact HB.out))));have n1_:=Aside0.mk (below_step (by repeat (first|(with_reducible first|exact HB.out|apply below_alloc|apply pw_below_drewN|apply below_drew1)|exact HB.out)) hb);clear HB;have HO242:=n0_;have HB:=n1_;clear n0_ n1_;(try clear hb);(try clear hb2);(try clear hk);(try clear hi);(try clear ho0))|((with_reducible refine gate_callee (f:=92) rfl ?_);refine goesL_ (some 25) rfl rfl Try.func92 (by kernel_rfl) rfl #[.int .i64 a3] rfl (by (try simp only [List.map_toArray,List.map_cons,List.map_nil]);first|done|rfl|(simp only [List.length_drop,List.length_take];rfl)) ?_;(with_reducible refine (connection_code.calls a3 false _ A7.out).mono ?_);rintro e w' ⟨rfl,⟨nd,rfl⟩⟩;refine ⟨_,rfl,?_⟩))
   go_ret2
   exact ⟨_,by first|rfl|(simp [errW_none,errW_some]<;>rfl)|(simp [*,errW_none,errW_some]<;>rfl),by first|exact Kd.R_nil _ _ _ _ _|exact Kd.N_nil _ _ _ _ _|exact Kd.V_nil _ _ _ _ _|exact Kd.Q_nil _ _ _ _ _|exact Kd.S_nil _ _ _ _ _,by repeat (first|(with_reducible first|exact HB.out|apply below_alloc|apply pw_below_drewN|apply below_drew1)|exact HB.out)⟩
 ·rw [if_neg c6] at H
  have c6b0:(t240 == 0) = false:=beq_eq_false_iff_ne.mpr c6
  have c6b1:(t240 != 0) = true:=bne_iff_ne.mpr c6
  simp only [Option.some.injEq,Prod.mk.injEq] at H
  obtain ⟨rfl,rfl⟩:=H
  go_enter Try.func61,Try.ntmps61
  go_wp2_with (first|((with_reducible refine gate_callee (f:=46) rfl ?_);refine goesL_ (some 16) rfl rfl Try.func46 (by kernel_rfl) rfl #[.slice A0 l0.length c0,.slice A1 l1.length c1,.slice A2 l2.length c2] rfl (by (try simp only [List.map_toArray,List.map_cons,List.map_nil]);first|done|rfl|(simp only [List.length_drop,List.length_take];rfl)) ?_;(with_reducible refine (connection_chosen.calls _ _ l0 _ _ l1 _ _ l2 t239 t240 _ ?side1 ?side2 ?side3 ?side4 ?side5 ?side6 A5.out).mono ?_);(case side1=>repeat (first|exact HR0.out|(with_reducible refine Kd.C_alloc ?_ _)|(with_reducible refine Kd.C_drewN ?_ _)|(with_reducible refine Kd.C_drew ?_)));(case side2=>exact HC0.out);(case side3=>repeat (first|exact HR1.out|(with_reducible refine Kd.C_alloc ?_ _)|(with_reducible refine Kd.C_drewN ?_ _)|(with_reducible refine Kd.C_drew ?_)));(case side4=>exact HC1.out);(case side5=>repeat (first|exact HR2.out|(with_reducible refine Kd.C_alloc ?_ _)|(with_reducible refine Kd.C_drewN ?_ _)|(with_reducible refine Kd.C_drew ?_)));(case side6=>exact HC2.out);rintro e w14 ⟨v241,rfl,ho0,hb⟩;refine ⟨_,rfl,?_⟩;have n0_:=Aside0.mk (Kd.R_lower ho0 (below_size (by repeat (first|(with_reducible first|exact HB.out|apply below_alloc|apply pw_below_drewN|apply below_drew1)|exact HB.out))));have n1_:=Aside0.mk (below_step (by repeat (first|(with_reducible first|exact HB.out|apply below_alloc|apply pw_below_drewN|apply below_drew1)|exact HB.out)) hb);clear HB;have HO242:=n0_;have HB:=n1_;clear n0_ n1_;(try clear hb);(try clear hb2);(try clear hk);(try clear hi);(try clear ho0)))
  go_ret2
  exact ⟨_,by first|rfl|(simp [errW_none,errW_some]<;>rfl)|(simp [*,errW_none,errW_some]<;>rfl),by first|exact Kd.R_nil _ _ _ _ _|exact Kd.N_nil _ _ _ _ _|exact Kd.V_nil _ _ _ _ _|exact Kd.Q_nil _ _ _ _ _|exact Kd.S_nil _ _ _ _ _,by repeat (first|(with_reducible first|exact HB.out|apply below_alloc|apply pw_below_drewN|apply below_drew1)|exact HB.out)⟩
def barL (E:List S48) (fr:List Int) (tt:Int):Nat→Nat→List Int→Nat→List Int
 | 0,_,out,_=>out
 | f + 1,i,out,left=>if 0 < left then (if mc (keepF (fun k=>decide (k ∈ out) || k == (i:Int)) 0 E) fr tt < left then barL E fr tt f (i + 1) (out ++ [(i:Int)]) (mc (keepF (fun k=>decide (k ∈ out) || k == (i:Int)) 0 E) fr tt) else barL E fr tt f (i + 1) out left) else out
def barI (E:List S48) (fr:List Int) (tt:Int):List Int:=barL E fr tt E.length 0 [] (mc (keepF (fun _=>false) 0 E) fr tt)
def idsL (E:List S48) (l:List Int):List Int:=l.map fun i=>(rd_T48 E i).f0
def connection_Barrier.f (k:Nat) (l0:List S48) (l1 l2:List Int) (a3:Int):Option (List Int × Int):=(connection_asked.f k l0 l1 l2 a3).bind fun t=>some (if t.2 = 0 then (idsL t.1 (barI t.1 l2 a3),0) else ([],t.2))
theorem keepF_len (ex:Int→Bool):∀ (E:List S48) (i:Nat),(keepF ex i E).length≤E.length:=by
 intro E
 induction E with
 | nil=>intro i;exact Nat.le_refl _
 | cons o E ih =>
  intro i
  unfold keepF
  have:=ih (i + 1)
  split
  ·exact Nat.le_succ_of_le this
  ·exact Nat.succ_le_succ this
theorem mc_len (L:List S48) (fr:List Int) (tt:Int):mc L fr tt≤L.length:=(foldl_min_le _ _).1
theorem out_snoc (out:List Int) (m:Int):(fun k=>decide (k ∈ out ++ [m])) = fun k=>decide (k = m) || decide (k ∈ out):=by
 funext k
 rw [Bool.eq_iff_iff]
 simp [or_comm]
theorem cont_more {k:Nat} {l:List Int} {a:Int} {b:Bool} (h:slices_Contains_int_int.f k l a = some b):∀ d,slices_Contains_int_int.f (k + d) l a = some b:=by
 intro d
 induction d with
 | zero=>exact h
 | succ d ih=>exact slices_Contains_int_int.mono l a (k + d) _ ih
theorem cont_det {k:Nat} {l:List Int} {a:Int} {b:Bool} (hl:l.length≤1000000) (h:slices_Contains_int_int.f k l a = some b):b = decide (a ∈ l):=by
 obtain ⟨k0,hk⟩:=index_ev l a (by omega)
 have h0:slices_Contains_int_int.f k0 l a = some (decide (a ∈ l)):=by
  unfold slices_Contains_int_int.f
  rw [hk,Option.bind_some,← any_eq_mem,fidx_any _ l 0]
 have h1:=cont_more h k0
 have h2:=cont_more h0 k
 rw [Nat.add_comm] at h2
 rw [h1] at h2
 exact Option.some.inj h2
theorem asked_inv {k:Nat} {l0:List S48} {l1 l2:List Int} {a3:Int} {o:List S48} (h:connection_asked.f k l0 l1 l2 a3 = some (o,0)):connection_chosen.f l0 l1 l2 = some (o,0)∧codeB a3 = true∧a3 ∉ l2:=by
 unfold connection_asked.f at h
 obtain ⟨⟨p,e⟩,hp,h⟩:=Option.bind_eq_some_iff.1 h
 by_cases he:e = 0
 ·rw [if_pos he] at h
  subst he
  obtain ⟨t,ht,h⟩:=Option.bind_eq_some_iff.1 h
  have hcode:codeB a3 = t:=by
   unfold connection_code.f at ht
   unfold codeB
   by_cases h0:a3 ≥ 0
   ·rw [if_pos h0] at ht;rw [decide_eq_true (show 0≤a3 from h0),Bool.true_and];exact Option.some.inj ht
   ·rw [if_neg h0] at ht;rw [decide_eq_false (show ¬ 0≤a3 from h0),Bool.false_and];exact Option.some.inj ht
  cases t with
  | false=>rw [if_neg (by decide)] at h;injection h with h;injection h with _ h;cases h
  | true =>
   rw [if_pos rfl] at h
   obtain ⟨t,ht,h⟩:=Option.bind_eq_some_iff.1 h
   have hsb:=(start_code (chosen_inv hp).2.1).1
   have hb:=cont_det (by omega) ht
   cases t with
   | true=>rw [if_pos rfl] at h;injection h with h;injection h with _ h;cases h
   | false=>rw [if_neg (by decide)] at h;injection h with h;injection h with h _;subst h;exact ⟨hp,hcode,of_decide_eq_false hb.symm⟩
 ·rw [if_neg he] at h;injection h with h;injection h with _ h;exact absurd h he
set_option maxHeartbeats 4000000 in
set_option maxRecDepth 100000 in
theorem connection_Barrier.calls (k:Nat) (A0:Option Addr) (c0:Nat) (l0:List S48) (A1:Option Addr) (c1:Nat) (l1:List Int) (A2:Option Addr) (c2:Nat) (l2:List Int) (a3:Int) (r1:List Int) (r2:Int) (w:World)
  (hr0:Kd.C k48 w A0 l0.length l0) (hc0:l0.length≤c0) (hr1:Kd.C (Kd.int .i64) w A1 l1.length l1) (hc1:l1.length≤c1) (hr2:Kd.C (Kd.int .i64) w A2 l2.length l2) (hc2:l2.length≤c2) (h:connection_Barrier.f k l0 l1 l2 a3 = some (r1,r2)) :
  Calls Try.prog 25 #[.slice A0 l0.length c0,.slice A1 l1.length c1,.slice A2 l2.length c2,.int .i64 a3] w fun e w'=>∃ v0_:Value,e = .returned (.tuple #[v0_,.int .i64 r2])∧Kd.R (Kd.int .i64) 3 w' w.heap.size (fun _=>True) v0_ r1∧Below w.heap.size w w':=by
 have hu48:=Try.underlying48
 unfold connection_Barrier.f at h
 obtain ⟨⟨o,e⟩,ho,h⟩:=Option.bind_eq_some_iff.1 h
 have HC:=Aside0.mk (connection_asked.calls k A0 c0 l0 A1 c1 l1 A2 c2 l2 a3 o e w hr0 hc0 hr1 hc1 hr2 hc2 ho)
 have HR2:=Aside0.mk hr2
 have HC2:=Aside0.mk hc2
 have HO:=Aside0.mk ho
 replace h:=Option.some.inj h
 clear hr0 hc0 hr1 hc1 hr2 hc2 ho
 by_cases he:e = 0
 case neg =>
  rw [if_neg he] at h
  injection h with h1 h2
  subst h1 h2
  have he1:(e != 0) = true:=bne_iff_ne.2 he
  have he2:(e == 0) = false:=beq_eq_false_iff_ne.2 he
  clear he
  go_enter Try.func25,Try.ntmps25
  go_wp2_with fail
  refine HC.out.mono ?_
  rintro e w1 ⟨v1,rfl,ho1,hb1⟩
  have HB:=Aside0.mk hb1
  clear ho1 hb1
  go_wp2_with fail
  go_ret2
  exact ⟨_,rfl,Kd.R_nil _ _ _ _ _,HB.out⟩
 subst he
 rw [if_pos rfl] at h
 injection h with h1 h2
 subst h1 h2
 obtain ⟨hch,hcd,hnf⟩:=asked_inv HO.out
 obtain ⟨hri,hst,hin,hpk⟩:=chosen_inv hch
 have hol:o.length≤64:=pickO_le hri hin hpk
 obtain ⟨hfl,hpw,hfc⟩:=start_code hst
 have HUW:=Aside0.mk (univ_code (ends_code hri (pickO_sub hpk)) hfc)
 have htw:wfI a3:=by unfold codeB at hcd;simp only [Bool.and_eq_true,decide_eq_true_eq] at hcd;exact wfI_of (by omega) (by omega)
 have HTW:=Aside0.mk htw
 have HNF:=Aside0.mk hnf
 have HND:=Aside0.mk (show l2.Nodup from hpw.imp (fun h=>Int.ne_of_lt h))
 clear hch hcd hnf hri hst hin hpk hpw hfc htw HO
 go_enter Try.func25,Try.ntmps25
 go_wp2_with fail
 refine HC.out.mono ?_
 clear HC
 rintro e w1 ⟨v1,rfl,ho1,hb1⟩
 obtain ⟨A,c,ev,hlc,hC⟩:=Kd.R_reads ho1
 subst ev
 have HCo:=Aside0.mk hC
 have HLc:=Aside0.mk hlc
 have HB1:=Aside0.mk hb1
 replace HR2:=Aside0.mk (Kd.C_below HR2.out hb1)
 clear ho1 hC hlc hb1
 go_wp2_with ((with_reducible refine gate_dst (N:=32) rfl ?_);refine makeMap_event 43 rfl rfl ?_;intro bm hbm w2 hM2 hB2;have hbw:w1.heap.size≤bm:=(by omega);clear hbm)
 have hs2:=hB2.size
 have HBX:=Aside0.mk (show (w2.alloc (.cells #[.map (some bm)] 43)).heap[w2.heap.size]? = some (.cells #[.map (some bm)] 43 (0,0)) from blk_new _ _)
 have hb3:Below w2.heap.size w2 (w2.alloc (.cells #[.map (some bm)] 43)):=below_alloc (Below.refl _ _) _
 have HM:=Aside0.mk (hM2.below hb3)
 have HB:=Aside0.mk (below_then hB2 hs2 hb3)
 generalize w2.alloc (.cells #[.map (some bm)] 43) = w3 at HBX HM HB hb3 ⊢
 have hbo:w1.heap.size≤w2.heap.size:=hs2
 generalize w2.heap.size = bo at HBX hbo ⊢
 clear hM2 hB2 hs2 hb3
 refine (most62 (g:=63) (lb:=#[]) (ex:=fun _=>false) (Kd.C_below HCo.out HB.out) (Kd.C_below HR2.out HB.out) HC2.out (pred63 _) (enters_of Try.func63 (by kernel_rfl) rfl) HNF.out HUW.out HTW.out hol hfl HND.out).mono ?_
 rintro e w4 ⟨xb,fb,fl,rfl,hb4,hn4,hf4,ho4⟩
 replace HM:=Aside0.mk (HM.out.below hb4)
 replace HBX:=Aside0.mk (blk_below HBX.out hb4)
 replace HB:=Aside0.mk (below_then HB.out HB.out.size hb4)
 clear hb4 hn4 hf4 ho4
 generalize hleft:mc (keepF (fun _=>false) 0 o) l2 a3 = left0
 go_wp2_with fail
 have HLF:=Aside0.mk hleft
 have HL1:=Aside0.mk (show left0≤1000 by rw [← hleft];exact Nat.le_trans (mc_len _ _ _) (Nat.le_trans (keepF_len _ _ _) (by omega)))
 have HBI:=Aside0.mk (show (w4.alloc (.cells #[.int .i64 0] 3)).heap[w4.heap.size]? = some (.cells #[.int .i64 0] 3 (0,0)) from blk_new _ _)
 have hb5:Below w4.heap.size w4 (w4.alloc (.cells #[.int .i64 0] 3)):=below_alloc (Below.refl _ _) _
 replace HM:=Aside0.mk (HM.out.below hb5)
 replace HBX:=Aside0.mk (blk_below HBX.out hb5)
 have hbi0:w1.heap.size≤w4.heap.size:=HB.out.size
 have hbib:bm≠w4.heap.size:=fun e=>by have:=HM.out.lt;have h2:=blk_lt HBX.out;have h3:=HBI.out;obtain ⟨es,ck,hbk⟩:=HM.out.blk;rw [e,h3] at hbk;cases hbk
 have hbob:bm≠bo:=fun e=>by obtain ⟨es,ck,hbk⟩:=HM.out.blk;rw [e,HBX.out] at hbk;cases hbk
 replace HB:=Aside0.mk (below_then HB.out HB.out.size hb5)
 generalize w4.alloc (.cells #[.int .i64 0] 3) = w5 at HBI HM HBX HB hb5 ⊢
 generalize w4.heap.size = bi at HBI hbi0 hbib ⊢
 clear hb5 hleft
 have e0:bF (fun k=>decide (k ∈ ([]:List Int))) = fun _=>none:=by funext k;unfold bF;simp
 replace HM:=Aside0.mk (show MapV w5 bm 0 (bF (fun k=>decide (k ∈ ([]:List Int)))) by rw [e0];exact HM.out)
 clear e0
 have hr0:∃ rr,rr = barI o l2 a3:=⟨_,rfl⟩
 obtain ⟨rr,hrr⟩:=hr0
 have HRR:=Aside0.mk hrr
 have HBAR:=Aside0.mk (show barL o l2 a3 (o.length - 0) 0 [] left0 = rr by rw [hrr,← HLF.out];rfl)
 have HOUT:=Aside0.mk (show ([]:List Int).Pairwise (· < ·)∧∀ k ∈ ([]:List Int),0≤k∧k < ((0:Nat):Int) from ⟨List.Pairwise.nil,fun k hk=>by simp at hk⟩)
 clear hrr
 go_loopg [13,15,16,17] o.length (fun gg s13 s15 s16 s17 wr=>∃ (i left bi:Nat) (out:List Int),i≤o.length∧o.length - i≤gg∧left≤1000∧s13 = .int .i64 left∧s15 = .pointer (some ⟨bi,0,none⟩)∧w1.heap.size≤bi∧bm≠bi
  ∧ Aside0 (barL o l2 a3 (o.length - i) i out left = rr)∧Aside0 (out.Pairwise (· < ·)∧∀ k ∈ out,0≤k∧k < (i:Int))∧Aside0 (MapV wr bm i (bF fun k=>decide (k ∈ out)))∧Aside0 (wr.heap[bo]? = some (.cells #[.map (some bm)] 43 (0,0)))∧Aside0 (wr.heap[bi]? = some (.cells #[.int .i64 i] 3 (0,0)))∧Aside0 (Below w1.heap.size w1 wr))
 case atStart=>exact ⟨0,left0,bi,[],Nat.zero_le _,by omega,HL1.out,rfl,rfl,hbi0,hbib,HBAR,HOUT,HM,HBX,HBI,HB⟩
 case round =>
  clear HBAR HOUT HM HBX HBI HB hbi0 hbib HLF
  obtain ⟨i,left,bi,out,hi,hg,hlf,rfl,rfl,hbi0,hbib,HBAR,HOUT,HM,HBX,HBI,HB⟩:=hrel
  have k1:wr.cell? ⟨bi,0,none⟩ = some (.int .i64 i):=(blk_cell HBI.out 0).trans rfl
  have k2:wr.cell? ⟨bo,0,none⟩ = some (.map (some bm)):=(blk_cell HBX.out 0).trans rfl
  by_cases hlt:i < o.length
  ·have hltz:(i:Int) < (o.length:Int):=by omega
   have hlt1:=decide_eq_true hltz
   by_cases hp:0 < left
   ·have hpz:0 < (left:Int):=by omega
    have hp1:=decide_eq_true hpz
    have hwi:wfI (i:Int):=wfI_of (by omega) (by omega)
    have HWI:=Aside0.mk hwi
    have HCM:=Aside0.mk (most62 (w:=wr) (A0:=A) (c0:=c) (g:=64) (lb:=#[.pointer (some ⟨bo,0,none⟩),.pointer (some ⟨bi,0,none⟩)]) (ex:=fun k=>decide (k ∈ out) || k == (i:Int)) (Kd.C_below HCo.out HB.out) (Kd.C_below HR2.out HB.out) HC2.out
     (pred64 wr bm i _ i bo bi HM.out (blk_lt HBX.out) (blk_lt HBI.out) k2 k1) (enters_of Try.func64 (by kernel_rfl) rfl) HNF.out HUW.out HTW.out hol hfl HND.out)
    clear hwi
    have HBAR2:=Aside0.mk (show (if mc (keepF (fun k=>decide (k ∈ out) || k == (i:Int)) 0 o) l2 a3 < left then barL o l2 a3 (o.length - (i + 1)) (i + 1) (out ++ [(i:Int)]) (mc (keepF (fun k=>decide (k ∈ out) || k == (i:Int)) 0 o) l2 a3) else barL o l2 a3 (o.length - (i + 1)) (i + 1) out left) = rr by
     have h:=HBAR.out
     rw [show o.length - i = (o.length - (i + 1)) + 1 from by omega] at h
     unfold barL at h
     rwa [if_pos hp] at h)
    go_wp2_with fail
    refine HCM.out.mono ?_
    rintro e w6 ⟨xb6,fb6,fl6,rfl,hb6,_,_,_⟩
    clear HCM k1 k2
    have hn1:mc (keepF (fun k=>decide (k ∈ out) || k == (i:Int)) 0 o) l2 a3≤1000:=Nat.le_trans (mc_len _ _ _) (Nat.le_trans (keepF_len _ _ _) (by omega))
    generalize mc (keepF (fun k=>decide (k ∈ out) || k == (i:Int)) 0 o) l2 a3 = n at HBAR2 hn1 ⊢
    have HM6:=Aside0.mk (HM.out.below hb6)
    have HBX6:=Aside0.mk (blk_below HBX.out hb6)
    have HBI6:=Aside0.mk (blk_below HBI.out hb6)
    have HB6:=Aside0.mk (below_then HB.out HB.out.size hb6)
    clear hb6 HM HBX HBI HB
    have k1:w6.cell? ⟨bi,0,none⟩ = some (.int .i64 i):=(blk_cell HBI6.out 0).trans rfl
    have k2:w6.cell? ⟨bo,0,none⟩ = some (.map (some bm)):=(blk_cell HBX6.out 0).trans rfl
    by_cases hn:n < left
    ·have hnz:(n:Int) < (left:Int):=by omega
     have HBAR3:=Aside0.mk (show barL o l2 a3 (o.length - (i + 1)) (i + 1) (out ++ [(i:Int)]) n = rr by have h:=HBAR2.out;rwa [if_pos hn] at h)
     go_wp2_with (at_mapUpdate;refine MapV.update HM6.out 43 4 Try.underlying43 rfl _ _ _ rfl rfl (by omega) (i:Int) (.bool true) rfl rfl HWI.out ?_;intro w7 hM7 hG7;have HM7:=Aside0.mk hM7;have HBX7:=Aside0.mk (blk_grown HBX6.out hG7 (fun e=>hbob (Option.some.inj e).symm));have HBI7:=Aside0.mk (blk_grown HBI6.out hG7 (fun e=>hbib (Option.some.inj e).symm));have HB7:=Aside0.mk (pw_below_grown HB6.out _ HB6.out.size hG7 (fun k hk=>by injection hk with hk;omega));clear hM7 hG7 k1 k2;have k1:w7.cell? ⟨bi,0,none⟩ = some (.int .i64 i):=(blk_cell HBI7.out 0).trans rfl)
     have HOUTn:=Aside0.mk (show (out ++ [(i:Int)]).Pairwise (· < ·)∧∀ k ∈ out ++ [(i:Int)],0≤k∧k < ((i + 1:Nat):Int) from
      ⟨List.pairwise_append.2 ⟨HOUT.out.1,List.pairwise_singleton _ _,fun a ha b hb=>by rw [List.mem_singleton.1 hb];exact (HOUT.out.2 a ha).2⟩,fun k hk=>by
       rcases List.mem_append.1 hk with h|h
       ·have:=HOUT.out.2 k h;omega
       ·rw [List.mem_singleton.1 h];omega⟩)
     have hbs:Below w7.heap.size w7 (w7.alloc (.cells #[.int .i64 ((i:Int) + 1)] 3)):=below_alloc (Below.refl _ _) _
     have hni:w1.heap.size≤w7.heap.size:=HB7.out.size
     have hnb:bm≠w7.heap.size:=fun e=>by have:=HM7.out.lt;omega
     have HMn:=Aside0.mk (HM7.out.below hbs)
     have HBXn:=Aside0.mk (blk_below HBX7.out hbs)
     have HBIn:=Aside0.mk (show (w7.alloc (.cells #[.int .i64 ((i:Int) + 1)] 3)).heap[w7.heap.size]? = some (.cells #[.int .i64 ((i:Int) + 1)] 3 (0,0)) from blk_new _ _)
     have HBn:=Aside0.mk (below_then HB7.out HB7.out.size hbs)
     clear hbs
     go_roundg (o.length - (i + 1))
     case measure=>omega
     case rel=>exact ⟨i + 1,n,w7.heap.size,out ++ [(i:Int)],by omega,by omega,by omega,rfl,rfl,hni,hnb,HBAR3,HOUTn,⟨by have h:=HMn.out;rw [bF_put] at h;rw [out_snoc];exact h⟩,HBXn,HBIn,HBn⟩
    ·have hnz:¬ (n:Int) < (left:Int):=by omega
     have HBAR3:=Aside0.mk (show barL o l2 a3 (o.length - (i + 1)) (i + 1) out left = rr by have h:=HBAR2.out;rwa [if_neg hn] at h)
     go_wp2_with fail
     have HOUTn:=Aside0.mk (show out.Pairwise (· < ·)∧∀ k ∈ out,0≤k∧k < ((i + 1:Nat):Int) from ⟨HOUT.out.1,fun k hk=>by have:=HOUT.out.2 k hk;omega⟩)
     have hbs:Below w6.heap.size w6 (w6.alloc (.cells #[.int .i64 ((i:Int) + 1)] 3)):=below_alloc (Below.refl _ _) _
     have hni:w1.heap.size≤w6.heap.size:=HB6.out.size
     have hnb:bm≠w6.heap.size:=fun e=>by have:=HM6.out.lt;omega
     have HMn:=Aside0.mk (HM6.out.below hbs)
     have HBXn:=Aside0.mk (blk_below HBX6.out hbs)
     have HBIn:=Aside0.mk (show (w6.alloc (.cells #[.int .i64 ((i:Int) + 1)] 3)).heap[w6.heap.size]? = some (.cells #[.int .i64 ((i:Int) + 1)] 3 (0,0)) from blk_new _ _)
     have HBn:=Aside0.mk (below_then HB6.out HB6.out.size hbs)
     clear hbs
     go_roundg (o.length - (i + 1))
     case measure=>omega
     case rel=>exact ⟨i + 1,left,w6.heap.size,out,by omega,by omega,by omega,rfl,rfl,hni,hnb,HBAR3,HOUTn,⟨HMn.out.up (by omega)⟩,HBXn,HBIn,HBn⟩
   ·have hpz:¬ 0 < (left:Int):=by omega
    have hp1:=decide_eq_false hpz
    have hout:out = rr:=by
     have h:=HBAR.out
     rw [show o.length - i = (o.length - (i + 1)) + 1 from by omega] at h;unfold barL at h;rwa [if_neg hp] at h
    have HUT:=Aside0.mk hout
    have hil:i≤64:=by omega
    clear hout
    go_wp2_with fail
    refine (keys57 _ _).mono ?_
    rintro e w6 ⟨rfl,rfl⟩
    go_wp2_with fail
    refine (sorted52B wr bm i _ HM.out (by omega)).mono ?_
    rintro e w7 ⟨v7,ss,rfl,hs1,hs2,hs3,hs4,hs5⟩
    have hss:ss = rr:=by
     rw [← HUT.out]
     have hm:∀ k,k ∈ ss ↔ k ∈ out:=fun k=>by rw [hs2 k,bF_isSome];simp
     exact (sub_inc out ss hs1 HOUT.out.1 (fun x hx=>(hm x).1 hx)).eq_of_length_le (sub_inc ss out HOUT.out.1 hs1 (fun x hx=>(hm x).2 hx)).length_le
    obtain ⟨A7,c7,e7⟩:=Kd.R_slice hs4
    subst e7
    have hbb:Below w1.heap.size w1 (wr.alloc (.cells #[.map (some bm)] 43)):=below_alloc HB.out _
    have HCS:=Aside0.mk (RI_C hs4).2
    have HSS:=Aside0.mk hss
    have HIN:=Aside0.mk (show ∀ x ∈ ss,0≤x∧x < (o.length:Int) from fun x hx=>by rw [hss,← HUT.out] at hx;have:=HOUT.out.2 x hx;omega)
    have HB7:=Aside0.mk (below_then hbb hbb.size hs5)
    have hsl:ss.length≤64:=by omega
    clear hs1 hs2 hs3 hs4 hs5 hss hbb k1 k2 HM HB HBX HBI HOUT HBAR
    go_wp2_with fail
    go_loopg [18,20,69] ss.length (fun gg s18 s20 s69 wr=>∃ (kk:Nat),kk≤ss.length∧ss.length - kk≤gg∧s69 = .int .i64 kk∧Aside0 (Kd.R (Kd.int .i64) 3 wr w7.heap.size (fun _=>True) s18 (idsL o (ss.take kk)))∧Aside0 (Below w7.heap.size w7 wr))
    case atStart=>exact ⟨0,Nat.zero_le _,by omega,rfl,⟨Kd.R_nil _ _ _ _ _⟩,⟨Below.refl _ _⟩⟩
    case round =>
     obtain ⟨kk,hkk,hg7,rfl,HT,HB⟩:=hrel
     by_cases hlt7:kk < ss.length
     ·have hltz7:(kk:Int) < (ss.length:Int):=by omega
      obtain ⟨ad7,e,h7⟩:=int_at (Kd.C_below HCS.out HB.out) kk hltz7
      cases e
      have HG7:=Aside0.mk (rd_get ss kk hlt7)
      have hx7:=HIN.out _ (List.mem_of_getElem? HG7.out)
      generalize rdOf 0 ss (kk:Int) = x at h7 HG7 hx7
      obtain ⟨xN,hxN⟩:∃ xN:Nat,x = (xN:Int):=⟨x.toNat,by omega⟩
      subst hxN
      obtain ⟨ad8,e,g0,_,_,_,_,_,_⟩:=at_T48 (Kd.C_below HCo.out (below_then HB7.out HB7.out.size HB.out)) xN (by omega) hx7.2
      cases e
      simp only [Int.toNat_natCast] at g0
      have hx8:=hx7.2
      have hids:idsL o (ss.take (kk + 1)) = idsL o (ss.take kk) ++ [(rd_T48 o (xN:Int)).f0]:=by rw [take_snoc_of HG7.out];unfold idsL;rw [List.map_append];rfl
      have HIDS:=Aside0.mk hids
      have htl:(idsL o (ss.take kk)).length≤64:=by unfold idsL;rw [List.length_map,List.length_take];omega
      clear hids hx7
      generalize (rd_T48 o (xN:Int)).f0 = idx at g0 HIDS
      go_wp2_with ((with_reducible refine gate_builtin (b:=.append) (xs:=#[.tmp 73,.tmp 79]) rfl ?_);at_builtin;refine Kd.R_append (Kd.int .i64) (w0:=w7) w7.heap.size rfl (.tmp 73) (.tmp 79) 23 3 (.int .i64 0) 8 rfl Try.underlying23 info3 rfl (by decide) (by omega) _ (idsL o (ss.take kk)) idx [.int .i64 idx] (fun _=>True) (fun _=>False) rfl rfl ?aP (fun _ hk=>hk.elim) ?aF ?aO ?aB ?aS ?aL ?_;(case aP=>exact rfl);(case aB=>exact bx_);(case aF=>exact (fun _ _=>trivial));(case aO=>exact rx_);(case aS=>exact below_size bx_);(case aL=>omega);intro v8 w8 ho hb hg_ hat;have HT8:=Aside0.mk ho;have HB8:=Aside0.mk hb;have HG8:=Aside0.mk hg_;clear ho hb hg_ hat)
      go_roundg (ss.length - (kk + 1))
      case measure=>omega
      case rel=>exact ⟨kk + 1,by omega,by omega,by go_num,⟨by rw [HIDS.out];exact HT8.out⟩,HB8⟩
     ·have hltz7:¬ (kk:Int) < (ss.length:Int):=by omega
      have hke:kk = ss.length:=by omega
      subst hke
      clear hlt7
      go_wp2_with fail
      go_ret2
      exact ⟨_,rfl,by rw [← HRR.out,← HSS.out];have h:=Kd.R_lower HT.out (Nat.le_trans HB1.out.size HB7.out.size);rwa [List.take_length] at h,below_then HB1.out HB1.out.size (below_then HB7.out HB7.out.size HB.out)⟩
  ·have hltz:¬ (i:Int) < (o.length:Int):=by omega
   have hlt1:=decide_eq_false hltz
   have hout:out = rr:=by
    have h:=HBAR.out
    rw [show o.length - i = 0 from by omega] at h;exact h
   have HUT:=Aside0.mk hout
   have hil:i≤64:=by omega
   clear hout
   go_wp2_with fail
   refine (keys57 _ _).mono ?_
   rintro e w6 ⟨rfl,rfl⟩
   go_wp2_with fail
   refine (sorted52B wr bm i _ HM.out (by omega)).mono ?_
   rintro e w7 ⟨v7,ss,rfl,hs1,hs2,hs3,hs4,hs5⟩
   have hss:ss = rr:=by
    rw [← HUT.out]
    have hm:∀ k,k ∈ ss ↔ k ∈ out:=fun k=>by rw [hs2 k,bF_isSome];simp
    exact (sub_inc out ss hs1 HOUT.out.1 (fun x hx=>(hm x).1 hx)).eq_of_length_le (sub_inc ss out HOUT.out.1 hs1 (fun x hx=>(hm x).2 hx)).length_le
   obtain ⟨A7,c7,e7⟩:=Kd.R_slice hs4
   subst e7
   have hbb:Below w1.heap.size w1 (wr.alloc (.cells #[.map (some bm)] 43)):=below_alloc HB.out _
   have HCS:=Aside0.mk (RI_C hs4).2
   have HSS:=Aside0.mk hss
   have HIN:=Aside0.mk (show ∀ x ∈ ss,0≤x∧x < (o.length:Int) from fun x hx=>by rw [hss,← HUT.out] at hx;have:=HOUT.out.2 x hx;omega)
   have HB7:=Aside0.mk (below_then hbb hbb.size hs5)
   have hsl:ss.length≤64:=by omega
   clear hs1 hs2 hs3 hs4 hs5 hss hbb k1 k2 HM HB HBX HBI HOUT HBAR
   go_wp2_with fail
   go_loopg [18,20,69] ss.length (fun gg s18 s20 s69 wr=>∃ (kk:Nat),kk≤ss.length∧ss.length - kk≤gg∧s69 = .int .i64 kk∧Aside0 (Kd.R (Kd.int .i64) 3 wr w7.heap.size (fun _=>True) s18 (idsL o (ss.take kk)))∧Aside0 (Below w7.heap.size w7 wr))
   case atStart=>exact ⟨0,Nat.zero_le _,by omega,rfl,⟨Kd.R_nil _ _ _ _ _⟩,⟨Below.refl _ _⟩⟩
   case round =>
    obtain ⟨kk,hkk,hg7,rfl,HT,HB⟩:=hrel
    by_cases hlt7:kk < ss.length
    ·have hltz7:(kk:Int) < (ss.length:Int):=by omega
     obtain ⟨ad7,e,h7⟩:=int_at (Kd.C_below HCS.out HB.out) kk hltz7
     cases e
     have HG7:=Aside0.mk (rd_get ss kk hlt7)
     have hx7:=HIN.out _ (List.mem_of_getElem? HG7.out)
     generalize rdOf 0 ss (kk:Int) = x at h7 HG7 hx7
     obtain ⟨xN,hxN⟩:∃ xN:Nat,x = (xN:Int):=⟨x.toNat,by omega⟩
     subst hxN
     obtain ⟨ad8,e,g0,_,_,_,_,_,_⟩:=at_T48 (Kd.C_below HCo.out (below_then HB7.out HB7.out.size HB.out)) xN (by omega) hx7.2
     cases e
     simp only [Int.toNat_natCast] at g0
     have hx8:=hx7.2
     have hids:idsL o (ss.take (kk + 1)) = idsL o (ss.take kk) ++ [(rd_T48 o (xN:Int)).f0]:=by rw [take_snoc_of HG7.out];unfold idsL;rw [List.map_append];rfl
     have HIDS:=Aside0.mk hids
     have htl:(idsL o (ss.take kk)).length≤64:=by unfold idsL;rw [List.length_map,List.length_take];omega
     clear hids hx7
     generalize (rd_T48 o (xN:Int)).f0 = idx at g0 HIDS
     go_wp2_with ((with_reducible refine gate_builtin (b:=.append) (xs:=#[.tmp 73,.tmp 79]) rfl ?_);at_builtin;refine Kd.R_append (Kd.int .i64) (w0:=w7) w7.heap.size rfl (.tmp 73) (.tmp 79) 23 3 (.int .i64 0) 8 rfl Try.underlying23 info3 rfl (by decide) (by omega) _ (idsL o (ss.take kk)) idx [.int .i64 idx] (fun _=>True) (fun _=>False) rfl rfl ?aP (fun _ hk=>hk.elim) ?aF ?aO ?aB ?aS ?aL ?_;(case aP=>exact rfl);(case aB=>exact bx_);(case aF=>exact (fun _ _=>trivial));(case aO=>exact rx_);(case aS=>exact below_size bx_);(case aL=>omega);intro v8 w8 ho hb hg_ hat;have HT8:=Aside0.mk ho;have HB8:=Aside0.mk hb;have HG8:=Aside0.mk hg_;clear ho hb hg_ hat)
     go_roundg (ss.length - (kk + 1))
     case measure=>omega
     case rel=>exact ⟨kk + 1,by omega,by omega,by go_num,⟨by rw [HIDS.out];exact HT8.out⟩,HB8⟩
    ·have hltz7:¬ (kk:Int) < (ss.length:Int):=by omega
     have hke:kk = ss.length:=by omega
     subst hke
     clear hlt7
     go_wp2_with fail
     go_ret2
     exact ⟨_,rfl,by rw [← HRR.out,← HSS.out];have h:=Kd.R_lower HT.out (Nat.le_trans HB1.out.size HB7.out.size);rwa [List.take_length] at h,below_then HB1.out HB1.out.size (below_then HB7.out HB7.out.size HB.out)⟩
def wfB (x:Int):Bool:=decide (-9223372036854775808≤x) && decide (x≤9223372036854775807)
theorem wfB_wf {x:Int} (h:wfB x = true):wfI x:=by
 unfold wfB at h
 simp only [Bool.and_eq_true,decide_eq_true_eq] at h
 exact wfI_of h.1 h.2
def goodT (op:List S48) (fr:List Int) (p:Option Int) (t:S29):Bool:=(match p with|none=>true|some x=>decide (x < t.f0)) && (!decide (t.f0 ∈ fr) && leadsB op fr t.f1 t.f0)
def allT (op:List S48) (fr:List Int):Option Int→List S29→Bool
 | _,[]=>true
 | p,t :: r=>goodT op fr p t && allT op fr (some t.f0) r
def insT (fr:List Int) (l:List S29) (j:Int):Bool:=decide (j ∈ fr) || l.any (fun t=>decide (j = t.f0))
def prevT (l:List S29) (k:Nat):Option Int:=if k = 0 then none else (l[k - 1]?).map S29.f0
def checkB (op:List S48) (fr:List Int) (l:List S29):Bool:=allT op fr none l && op.all (fun o=>insT fr l o.f1 == insT fr l o.f2)
def connection_Check.f (l0:List S48) (l1 l2:List Int) (l3:List S29):Option Int :=
 if l3.length≤1000000∧(l3.all fun t=>wfB t.f0) = true then (connection_chosen.f l0 l1 l2).bind fun t=>some (if t.2 = 0 then (if checkB t.1 l2 l3 = true then 0 else 14) else t.2) else none
theorem rd29_get (xs:List S29) (k:Nat) (h:k < xs.length):xs[k]? = some (rd_T29 xs k):=by
 unfold rd_T29
 rw [List.getD_eq_getElem?_getD,Int.toNat_natCast,List.getElem?_eq_getElem h]
 rfl
theorem drop_cons_of {α:Type} {l:List α} {k:Nat} {x:α} (h:l[k]? = some x):l.drop k = x :: l.drop (k + 1):=by
 have hlt:=(List.getElem?_eq_some_iff.1 h).1
 rw [List.drop_eq_getElem_cons hlt]
 rw [List.getElem?_eq_getElem hlt] at h
 rw [Option.some.inj h]
theorem insT_snoc (fr:List Int) (a:List S29) (x:S29):(fun j=>decide (j = x.f0) || insT fr a j) = insT fr (a ++ [x]):=by
 funext j
 unfold insT
 rw [List.any_append]
 simp only [List.any_cons,List.any_nil,Bool.or_false]
 cases decide (j = x.f0)<;>cases decide (j ∈ fr)<;>simp
set_option maxHeartbeats 8000000 in
set_option maxRecDepth 100000 in
theorem connection_Check.calls (A0:Option Addr) (c0:Nat) (l0:List S48) (A1:Option Addr) (c1:Nat) (l1:List Int) (A2:Option Addr) (c2:Nat) (l2:List Int) (A3:Option Addr) (c3:Nat) (l3:List S29) (r:Int) (w:World)
  (hr0:Kd.C k48 w A0 l0.length l0) (hc0:l0.length≤c0) (hr1:Kd.C (Kd.int .i64) w A1 l1.length l1) (hc1:l1.length≤c1) (hr2:Kd.C (Kd.int .i64) w A2 l2.length l2) (hc2:l2.length≤c2) (hr3:Kd.C k29 w A3 l3.length l3) (hc3:l3.length≤c3) (h:connection_Check.f l0 l1 l2 l3 = some r) :
  Calls Try.prog 14 #[.slice A0 l0.length c0,.slice A1 l1.length c1,.slice A2 l2.length c2,.slice A3 l3.length c3] w fun e w'=>e = .returned (.int .i64 r)∧Below w.heap.size w w':=by
 have hu48:=Try.underlying48
 have hu29:=Try.underlying29
 unfold connection_Check.f at h
 by_cases hg:l3.length≤1000000∧(l3.all fun t=>wfB t.f0) = true
 case neg=>rw [if_neg hg] at h;cases h
 rw [if_pos hg] at h
 have hl3:=hg.1
 have HWF:=Aside0.mk (List.all_eq_true.1 hg.2)
 clear hg
 obtain ⟨⟨o,e⟩,ho,h⟩:=Option.bind_eq_some_iff.1 h
 have HC:=Aside0.mk (connection_chosen.calls A0 c0 l0 A1 c1 l1 A2 c2 l2 o e w hr0 hc0 hr1 hc1 hr2 hc2 ho)
 have HR2:=Aside0.mk hr2
 have HC2:=Aside0.mk hc2
 have HR3:=Aside0.mk hr3
 have HO:=Aside0.mk ho
 replace h:=Option.some.inj h
 clear hr0 hc0 hr1 hc1 hr2 hc2 ho hr3 hc3
 by_cases he:e = 0
 case neg =>
  rw [if_neg he] at h
  subst h
  have he1:(e != 0) = true:=bne_iff_ne.2 he
  have he2:(e == 0) = false:=beq_eq_false_iff_ne.2 he
  clear he
  go_enter Try.func14,Try.ntmps14
  go_wp2_with fail
  refine HC.out.mono ?_
  rintro e w1 ⟨v1,rfl,ho1,hb1⟩
  have HB:=Aside0.mk hb1
  clear ho1 hb1
  go_wp2_with fail
  go_ret
  exact ⟨rfl,HB.out⟩
 subst he
 rw [if_pos rfl] at h
 have HF:=Aside0.mk h
 clear h
 have hl2:=(ways_ok HO.out).2.1
 have hol:=(ways_ok HO.out).1
 have HK:=Aside0.mk (ways_ok HO.out).2.2
 go_enter Try.func14,Try.ntmps14
 go_wp2_with fail
 refine HC.out.mono ?_
 rintro e w1 ⟨v1,rfl,ho1,hb1⟩
 obtain ⟨A,c,ev,hlc,hC⟩:=Kd.R_reads ho1
 subst ev
 have HCo:=Aside0.mk hC
 have HLc:=Aside0.mk hlc
 have HB0:=Aside0.mk hb1
 have HB:=Aside0.mk (Below.refl w1.heap.size w1)
 clear ho1 hC hlc hb1
 have HR2':=Aside0.mk (Kd.C_below HR2.out HB0.out)
 have HR3':=Aside0.mk (Kd.C_below HR3.out HB0.out)
 clear HR2 HR3 HC
 go_wp2_with ((with_reducible refine gate_dst (N:=28) rfl ?_);refine makeMap_event 43 rfl rfl ?_;intro bh hbh w2 hM1 hB1;have hbw:w1.heap.size≤bh:=(by omega);clear hbh)
 have HM:=Aside0.mk hM1
 replace HB:=Aside0.mk hB1
 clear hM1 hB1
 go_loopg [13,31] l2.length (fun gg s13 s31 wr=>∃ (kk:Nat),kk≤l2.length∧l2.length - kk≤gg∧s31 = .int .i64 kk∧Aside0 (MapV wr bh kk (bF fun j=>decide (j ∈ l2.take kk)))∧Aside0 (Below w1.heap.size w1 wr))
 case atStart=>exact ⟨0,Nat.zero_le _,by omega,rfl,⟨by rw [bF_take0];exact HM.out⟩,HB⟩
 case round =>
  clear HM HB
  obtain ⟨kk,hkk,hg,rfl,HM,HB⟩:=hrel
  by_cases hlt:kk < l2.length
  ·have hltz:(kk:Int) < (l2.length:Int):=by omega
   obtain ⟨ad,e,h0⟩:=int_at (Kd.C_below HR2'.out HB.out) kk hltz
   cases e
   have HG:=Aside0.mk (rd_get l2 kk hlt)
   generalize rdOf 0 l2 (kk:Int) = x at h0 HG
   have HXW:=Aside0.mk (HK.out x (univ_from (List.mem_of_getElem? HG.out)))
   go_wp2_with (at_mapUpdate;refine MapV.update HM.out 43 4 Try.underlying43 rfl _ _ _ rfl rfl (by omega) x (.bool true) rfl rfl HXW.out ?_;intro w6 hM6 hG6)
   go_roundg (l2.length - (kk + 1))
   case measure=>omega
   case rel =>
    refine ⟨kk + 1,by omega,by omega,by go_num,⟨?_⟩,⟨pw_below_grown HB.out _ HB.out.size hG6 (fun k hk=>by injection hk with hk;omega)⟩⟩
    have h:=hM6
    rw [bF_put,take_set HG.out] at h
    exact h
  ·have hltz:¬ (kk:Int) < (l2.length:Int):=by omega
   replace HM:=Aside0.mk (show MapV wr bh 64 (bF (insT l2 (l3.take 0))) by
    have h:=HM.out.up (show kk≤64 by omega)
    rw [List.take_of_length_le (by omega)] at h
    have e:insT l2 (l3.take 0) = fun j=>decide (j ∈ l2):=by funext j;unfold insT;rw [List.take_zero];simp
    rw [e]
    exact h)
   go_wp2_with fail
   go_loopg [14,15,40] l3.length (fun gg s14 s15 s40 wr=>∃ (kk:Nat),kk≤l3.length∧l3.length - kk≤gg∧s40 = .int .i64 kk∧Aside0 (allT o l2 (prevT l3 kk) (l3.drop kk) = allT o l2 none l3)∧Aside0 (MapV wr bh (64 + kk) (bF (insT l2 (l3.take kk))))∧Aside0 (Below w1.heap.size w1 wr))
   case atStart=>exact ⟨0,Nat.zero_le _,by omega,rfl,⟨rfl⟩,HM,HB⟩
   case round =>
    clear HM HB
    obtain ⟨kk,hkk,hg,rfl,HAL,HM,HB⟩:=hrel
    by_cases hlt:kk < l3.length
    ·have hltz:(kk:Int) < (l3.length:Int):=by omega
     obtain ⟨ad,At,ct,e,h0,h1,hlt1,hct⟩:=at_T29 (Kd.C_below HR3'.out HB.out) kk (by omega) hltz
     have HG:=Aside0.mk (rd29_get l3 kk hlt)
     simp only [Int.toNat_natCast] at h0 h1
     generalize rd_T29 l3 (kk:Int) = t at h0 h1 HG hlt1 hct
     have HW:=Aside0.mk (wfB_wf (HWF.out t (List.mem_of_getElem? HG.out)))
     have hal:allT o l2 none l3 = (goodT o l2 (prevT l3 kk) t && allT o l2 (some t.f0) (l3.drop (kk + 1))):=by
      rw [← HAL.out,drop_cons_of HG.out];rfl
     replace HAL:=Aside0.mk hal
     have HPN:=Aside0.mk (show prevT l3 (kk + 1) = some t.f0 by unfold prevT;rw [if_neg (by omega),Nat.add_sub_cancel,HG.out];rfl)
     cases e
     have HLT:=Aside0.mk hlt1
     clear hal hlt1
     go_wp2_with fail
     generalize hw6:wr.alloc (.cells #[.int .i64 t.f0,.slice At t.f1.length ct] 29) = w6
     have hb6:w6.heap[wr.heap.size]? = some (.cells #[.int .i64 t.f0,.slice At t.f1.length ct] 29 (0,0)):=by rw [← hw6];exact blk_new _ _
     have hBl:Below wr.heap.size wr w6:=by rw [← hw6];exact below_alloc (Below.refl _ _) _
     replace HM:=Aside0.mk (HM.out.below hBl)
     have HBP:=Aside0.mk HB.out
     replace HB:=Aside0.mk (below_then HB.out HB.out.size hBl)
     have HCT:=Aside0.mk (Kd.C_below hct hBl)
     have HBX:=Aside0.mk hb6
     obtain ⟨bx,hbx⟩:∃ bx,bx = wr.heap.size:=⟨_,rfl⟩
     rw [← hbx] at HBX ⊢
     have hbxw:w1.heap.size≤bx:=by have:=HBP.out.size;omega
     have hbne:bh≠bx:=by have:=(HM.out).lt;intro e;obtain ⟨es,ck,hq⟩:=HM.out.blk;rw [e,HBX.out] at hq;cases hq
     clear hb6 hBl hw6 h0 h1 hbx hct HBP
     have HBS:=Aside0.mk (Below.refl w6.heap.size w6)
     have hfail:goodT o l2 (prevT l3 kk) t = false→(14:Int) = r:=fun hx=>by
      have h:=HF.out
      unfold checkB at h
      rw [HAL.out,hx,Bool.false_and,Bool.false_and,if_neg (by decide)] at h
      exact h
     have HFAIL:=Aside0.mk hfail
     clear hfail
     by_cases hk0:0 < kk
     ·have hdn:decide (0 < kk) = true:=decide_eq_true hk0
      have hk0z:(0:Int) < (kk:Int):=by omega
      obtain ⟨ji,hji⟩:∃ ji:Int,ji = (kk:Int) - 1:=⟨_,rfl⟩
      have hwr0:IntKind.i64.wrap ((kk:Int) - 1) = ji:=by rw [hji];exact IntWalk.i64_in _ (by omega)
      have hjp:0≤ji:=by omega
      have hjq:ji < (l3.length:Int):=by omega
      have HJ:=Aside0.mk (show ji.toNat = kk - 1 by omega)
      obtain ⟨ad2,A2',c2',e2,g0,_⟩:=at_T29 (Kd.C_below HR3'.out HB.out) ji hjp hjq
      cases e2
      have HY:=Aside0.mk (rd29_get l3 ji.toNat (by omega))
      rw [show ((ji.toNat:Nat):Int) = ji from by omega] at HY
      generalize rd_T29 l3 ji = y at g0 HY
      have HPV:=Aside0.mk (show prevT l3 kk = some y.f0 by
       unfold prevT
       rw [if_neg (by omega),← HJ.out,HY.out]
       rfl)
      have HCE:=Aside0.mk (show ∀ W',Below w6.heap.size w6 W'→W'.cell? ⟨bx,0,none⟩ = some (.int .i64 t.f0)∧W'.cell? ⟨bx,1,none⟩ = some (.slice At t.f1.length ct)∧W'.cell? (ad.add (ji.toNat * 2)) = some (.int .i64 y.f0) from fun W' hW=>⟨pw_cell_below hW (blk_cell HBX.out 0),pw_cell_below hW (blk_cell HBX.out 1),pw_cell_below hW g0⟩)
      clear hji hk0 HJ
      have hjpd:decide (0≤ji) = true:=decide_eq_true hjp
      have hjqd:decide (ji < (l3.length:Int)) = true:=decide_eq_true hjq
      replace hjp:=eq_true hjp
      replace hjq:=eq_true hjq
      obtain ⟨k0,k1,k2⟩:=HCE.out w6 HBS.out
      clear g0
      by_cases hcp:t.f0≤y.f0
      ·have hcd:=decide_eq_true hcp
       have HCP:=Aside0.mk hcp
       go_quiet (fail)
       go_wp2_with fail
       go_ret
       refine ⟨?_,below_then HB0.out HB0.out.size (HB.out.trans (pw_below_drewN (Below.refl _ _) _))⟩
       rw [← HFAIL.out (by unfold goodT;rw [HPV.out];show (decide (y.f0 < t.f0) && _) = false;rw [decide_eq_false (by have:=HCP.out;omega)];rfl)]
       rfl
      have hcd:=decide_eq_false hcp
      have HCP:=Aside0.mk (show decide (y.f0 < t.f0) = true from decide_eq_true (Int.not_le.1 hcp))
      cases hxm:decide (t.f0 ∈ l2) with
      | true =>
       have HXM:=Aside0.mk hxm
       refine start_ (n:=29) (S:=fun w'=>w'.cell? ⟨bx,0,none⟩ = some (.int .i64 t.f0)∧w'.cell? ⟨bx,1,none⟩ = some (.slice At t.f1.length ct)∧w'.cell? (ad.add (ji.toNat * 2)) = some (.int .i64 y.f0)∧decide (0 < kk) = true∧decide (t.f0≤y.f0) = false) (ds:=[]) #[false,false,false,false,false,false,false,false,false,false,false,false,false,false,false,false,false,false,false,false,false,false,false,false,false,false,false,false,false] (by kernel_rfl) rfl rfl (⟨(HCE.out _ bx_).1,(HCE.out _ bx_).2.1,(HCE.out _ bx_).2.2,hdn,hcd⟩) (fun hHeld=>?_)
       refine pu_ 0 (some 45) #[true,false,false,false,false,false,false,false,false,false,false,false,false,false,false,false,false,false,false,false,false,false,false,false,false,false,false,false,false] ?_
       refine pu_ 1 (some 46) #[true,true,false,false,false,false,false,false,false,false,false,false,false,false,false,false,false,false,false,false,false,false,false,false,false,false,false,false,false] ?_
       refine pu_ 2 (some 47) #[true,true,true,false,false,false,false,false,false,false,false,false,false,false,false,false,false,false,false,false,false,false,false,false,false,false,false,false,false] ?_
       refine pu_ 3 (some 48) #[true,true,true,true,false,false,false,false,false,false,false,false,false,false,false,false,false,false,false,false,false,false,false,false,false,false,false,false,false] ?_
       refine tk_ 4 (some 49) #[true,true,true,true,true,false,false,false,false,false,false,false,false,false,false,false,false,false,false,false,false,false,false,false,false,false,false,false,false] hHeld ?_
       refine pu_ 5 (some 50) #[true,true,true,true,true,true,false,false,false,false,false,false,false,false,false,false,false,false,false,false,false,false,false,false,false,false,false,false,false] ?_
       refine pu_ 6 (some 51) #[true,true,true,true,true,true,true,false,false,false,false,false,false,false,false,false,false,false,false,false,false,false,false,false,false,false,false,false,false] ?_
       refine pu_ 7 (some 52) #[true,true,true,true,true,true,true,true,false,false,false,false,false,false,false,false,false,false,false,false,false,false,false,false,false,false,false,false,false] ?_
       refine pu_ 8 (some 53) #[true,true,true,true,true,true,true,true,true,false,false,false,false,false,false,false,false,false,false,false,false,false,false,false,false,false,false,false,false] ?_
       refine pu_ 9 (some 54) #[true,true,true,true,true,true,true,true,true,true,false,false,false,false,false,false,false,false,false,false,false,false,false,false,false,false,false,false,false] ?_
       refine tk_ 10 (some 55) #[true,true,true,true,true,true,true,true,true,true,true,false,false,false,false,false,false,false,false,false,false,false,false,false,false,false,false,false,false] hHeld ?_
       refine pu_ 11 (some 56) #[true,true,true,true,true,true,true,true,true,true,true,true,false,false,false,false,false,false,false,false,false,false,false,false,false,false,false,false,false] ?_
       refine pu_ 12 (some 57) #[true,true,true,true,true,true,true,true,true,true,true,true,true,false,false,false,false,false,false,false,false,false,false,false,false,false,false,false,false] ?_
       refine pu_ 13 (some 58) #[true,true,true,true,true,true,true,true,true,true,true,true,true,true,false,false,false,false,false,false,false,false,false,false,false,false,false,false,false] ?_
       refine pu_ 14 (some 59) #[true,true,true,true,true,true,true,true,true,true,true,true,true,true,true,false,false,false,false,false,false,false,false,false,false,false,false,false,false] ?_
       refine pu_ 15 (some 60) #[true,true,true,true,true,true,true,true,true,true,true,true,true,true,true,true,false,false,false,false,false,false,false,false,false,false,false,false,false] ?_
       refine tk_ 16 (some 61) #[true,true,true,true,true,true,true,true,true,true,true,true,true,true,true,true,true,false,false,false,false,false,false,false,false,false,false,false,false] hHeld ?_
       refine oc_ 17 (some 62) #[true,true,true,true,true,true,true,true,true,true,true,true,true,true,true,true,true,true,false,false,false,false,false,false,false,false,false,false,false] Try.func37 #[.slice A2 l2.length c2,.int .i64 t.f0] (fun K hK=>?_)
       refine (cont_is hxm A2 c2 _ (cx_ (Kd.C_below HR2'.out HB.out)) HC2.out).mono ?_
       rintro e w8 ⟨rfl,nd,rfl⟩
       refine ⟨_,rfl,?_⟩
       refine hk_ hK (fun hHeld=>?_) (⟨(HCE.out _ bx_).1,(HCE.out _ bx_).2.1,(HCE.out _ bx_).2.2,hdn,hcd⟩)
       clear hK K
       refine pu_ 18 (some 63) #[true,true,true,true,true,true,true,true,true,true,true,true,true,true,true,true,true,true,true,false,false,false,false,false,false,false,false,false,false] ?_
       refine pu_ 19 (some 64) #[true,true,true,true,true,true,true,true,true,true,true,true,true,true,true,true,true,true,true,true,false,false,false,false,false,false,false,false,false] ?_
       refine pure_ (i:=20) (N:=(some 65)) (v:=undef) (a':=?_) #[true,true,true,true,true,true,true,true,true,true,true,true,true,true,true,true,true,true,true,true,true,false,false,false,false,false,false,false,false] rfl rfl (by kernel_rfl) (fun _ _ _ h=>h) (Or.inr ⟨by rfl,rfl⟩) ?_ ?_
       rotate_left
       ·simp only [Act.put,List.setIfInBounds_toArray,List.set_cons_zero,List.set_cons_succ,i64_w,i32_w]
        rfl
       refine pure_ (i:=21) (N:=(some 66)) (v:=undef) (a':=?_) #[true,true,true,true,true,true,true,true,true,true,true,true,true,true,true,true,true,true,true,true,true,true,false,false,false,false,false,false,false] rfl rfl (by kernel_rfl) (fun _ _ _ h=>h) (Or.inr ⟨by rfl,rfl⟩) ?_ ?_
       rotate_left
       ·simp only [Act.put,List.setIfInBounds_toArray,List.set_cons_zero,List.set_cons_succ,i64_w,i32_w]
        rfl
       refine pure_ (i:=22) (N:=(some 67)) (v:=undef) (a':=?_) #[true,true,true,true,true,true,true,true,true,true,true,true,true,true,true,true,true,true,true,true,true,true,true,false,false,false,false,false,false] rfl rfl (by kernel_rfl) (fun _ _ _ h=>h) (Or.inr ⟨by rfl,rfl⟩) ?_ ?_
       rotate_left
       ·simp only [Act.put,List.setIfInBounds_toArray,List.set_cons_zero,List.set_cons_succ,i64_w,i32_w]
        rfl
       refine pure_ (i:=23) (N:=(some 68)) (v:=undef) (a':=?_) #[true,true,true,true,true,true,true,true,true,true,true,true,true,true,true,true,true,true,true,true,true,true,true,true,false,false,false,false,false] rfl rfl (by kernel_rfl) (fun _ _ _ h=>h) (Or.inr ⟨by rfl,rfl⟩) ?_ ?_
       rotate_left
       ·simp only [Act.put,List.setIfInBounds_toArray,List.set_cons_zero,List.set_cons_succ,i64_w,i32_w]
        rfl
       refine pure_ (i:=24) (N:=(some 69)) (v:=undef) (a':=?_) #[true,true,true,true,true,true,true,true,true,true,true,true,true,true,true,true,true,true,true,true,true,true,true,true,true,false,false,false,false] rfl rfl (by kernel_rfl) (fun _ _ _ h=>h) (Or.inr ⟨by rfl,rfl⟩) ?_ ?_
       rotate_left
       ·simp only [Act.put,List.setIfInBounds_toArray,List.set_cons_zero,List.set_cons_succ,i64_w,i32_w]
        rfl
       refine pure_ (i:=25) (N:=(some 70)) (v:=undef) (a':=?_) #[true,true,true,true,true,true,true,true,true,true,true,true,true,true,true,true,true,true,true,true,true,true,true,true,true,true,false,false,false] rfl rfl (by kernel_rfl) (fun _ _ _ h=>h) (Or.inr ⟨by rfl,rfl⟩) ?_ ?_
       rotate_left
       ·simp only [Act.put,List.setIfInBounds_toArray,List.set_cons_zero,List.set_cons_succ,i64_w,i32_w]
        rfl
       refine pure_ (i:=26) (N:=(some 71)) (v:=undef) (a':=?_) #[true,true,true,true,true,true,true,true,true,true,true,true,true,true,true,true,true,true,true,true,true,true,true,true,true,true,true,false,false] rfl rfl (by kernel_rfl) (fun _ _ _ h=>h) (Or.inr ⟨by rfl,rfl⟩) ?_ ?_
       rotate_left
       ·simp only [Act.put,List.setIfInBounds_toArray,List.set_cons_zero,List.set_cons_succ,i64_w,i32_w]
        rfl
       refine pure_ (i:=27) (N:=(some 72)) (v:=undef) (a':=?_) #[true,true,true,true,true,true,true,true,true,true,true,true,true,true,true,true,true,true,true,true,true,true,true,true,true,true,true,true,false] rfl rfl (by kernel_rfl) (fun _ _ _ h=>h) (Or.inr ⟨by rfl,rfl⟩) ?_ ?_
       rotate_left
       ·simp only [Act.put,List.setIfInBounds_toArray,List.set_cons_zero,List.set_cons_succ,i64_w,i32_w]
        rfl
       refine pu_ 28 (some 73) #[true,true,true,true,true,true,true,true,true,true,true,true,true,true,true,true,true,true,true,true,true,true,true,true,true,true,true,true,true] ?_
       refine done_ (by kernel_rfl) ?_
       go_wp2_with fail
       go_ret
       refine ⟨?_,below_then HB0.out HB0.out.size (below_then HB.out HB.out.size bx_)⟩
       rw [← HFAIL.out (by unfold goodT;rw [HXM.out];simp)]
       rfl
      | false =>
       have HXM:=Aside0.mk hxm
       cases hlb:leadsB o l2 t.f1 t.f0 with
       | false =>
        have HLB:=Aside0.mk hlb
        refine start_ (n:=29) (S:=fun w'=>w'.cell? ⟨bx,0,none⟩ = some (.int .i64 t.f0)∧w'.cell? ⟨bx,1,none⟩ = some (.slice At t.f1.length ct)∧w'.cell? (ad.add (ji.toNat * 2)) = some (.int .i64 y.f0)∧decide (0 < kk) = true∧decide (t.f0≤y.f0) = false) (ds:=[]) #[false,false,false,false,false,false,false,false,false,false,false,false,false,false,false,false,false,false,false,false,false,false,false,false,false,false,false,false,false] (by kernel_rfl) rfl rfl (⟨(HCE.out _ bx_).1,(HCE.out _ bx_).2.1,(HCE.out _ bx_).2.2,hdn,hcd⟩) (fun hHeld=>?_)
        refine pu_ 0 (some 45) #[true,false,false,false,false,false,false,false,false,false,false,false,false,false,false,false,false,false,false,false,false,false,false,false,false,false,false,false,false] ?_
        refine pu_ 1 (some 46) #[true,true,false,false,false,false,false,false,false,false,false,false,false,false,false,false,false,false,false,false,false,false,false,false,false,false,false,false,false] ?_
        refine pu_ 2 (some 47) #[true,true,true,false,false,false,false,false,false,false,false,false,false,false,false,false,false,false,false,false,false,false,false,false,false,false,false,false,false] ?_
        refine pu_ 3 (some 48) #[true,true,true,true,false,false,false,false,false,false,false,false,false,false,false,false,false,false,false,false,false,false,false,false,false,false,false,false,false] ?_
        refine tk_ 4 (some 49) #[true,true,true,true,true,false,false,false,false,false,false,false,false,false,false,false,false,false,false,false,false,false,false,false,false,false,false,false,false] hHeld ?_
        refine pu_ 5 (some 50) #[true,true,true,true,true,true,false,false,false,false,false,false,false,false,false,false,false,false,false,false,false,false,false,false,false,false,false,false,false] ?_
        refine pu_ 6 (some 51) #[true,true,true,true,true,true,true,false,false,false,false,false,false,false,false,false,false,false,false,false,false,false,false,false,false,false,false,false,false] ?_
        refine pu_ 7 (some 52) #[true,true,true,true,true,true,true,true,false,false,false,false,false,false,false,false,false,false,false,false,false,false,false,false,false,false,false,false,false] ?_
        refine pu_ 8 (some 53) #[true,true,true,true,true,true,true,true,true,false,false,false,false,false,false,false,false,false,false,false,false,false,false,false,false,false,false,false,false] ?_
        refine pu_ 9 (some 54) #[true,true,true,true,true,true,true,true,true,true,false,false,false,false,false,false,false,false,false,false,false,false,false,false,false,false,false,false,false] ?_
        refine tk_ 10 (some 55) #[true,true,true,true,true,true,true,true,true,true,true,false,false,false,false,false,false,false,false,false,false,false,false,false,false,false,false,false,false] hHeld ?_
        refine pu_ 11 (some 56) #[true,true,true,true,true,true,true,true,true,true,true,true,false,false,false,false,false,false,false,false,false,false,false,false,false,false,false,false,false] ?_
        refine pu_ 12 (some 57) #[true,true,true,true,true,true,true,true,true,true,true,true,true,false,false,false,false,false,false,false,false,false,false,false,false,false,false,false,false] ?_
        refine pu_ 13 (some 58) #[true,true,true,true,true,true,true,true,true,true,true,true,true,true,false,false,false,false,false,false,false,false,false,false,false,false,false,false,false] ?_
        refine pu_ 14 (some 59) #[true,true,true,true,true,true,true,true,true,true,true,true,true,true,true,false,false,false,false,false,false,false,false,false,false,false,false,false,false] ?_
        refine pu_ 15 (some 60) #[true,true,true,true,true,true,true,true,true,true,true,true,true,true,true,true,false,false,false,false,false,false,false,false,false,false,false,false,false] ?_
        refine tk_ 16 (some 61) #[true,true,true,true,true,true,true,true,true,true,true,true,true,true,true,true,true,false,false,false,false,false,false,false,false,false,false,false,false] hHeld ?_
        refine oc_ 17 (some 62) #[true,true,true,true,true,true,true,true,true,true,true,true,true,true,true,true,true,true,false,false,false,false,false,false,false,false,false,false,false] Try.func37 #[.slice A2 l2.length c2,.int .i64 t.f0] (fun K hK=>?_)
        refine (cont_is hxm A2 c2 _ (cx_ (Kd.C_below HR2'.out HB.out)) HC2.out).mono ?_
        rintro e w8 ⟨rfl,nd,rfl⟩
        refine ⟨_,rfl,?_⟩
        refine hk_ hK (fun hHeld=>?_) (⟨(HCE.out _ bx_).1,(HCE.out _ bx_).2.1,(HCE.out _ bx_).2.2,hdn,hcd⟩)
        clear hK K
        refine pu_ 18 (some 63) #[true,true,true,true,true,true,true,true,true,true,true,true,true,true,true,true,true,true,true,false,false,false,false,false,false,false,false,false,false] ?_
        refine pu_ 19 (some 64) #[true,true,true,true,true,true,true,true,true,true,true,true,true,true,true,true,true,true,true,true,false,false,false,false,false,false,false,false,false] ?_
        refine pu_ 20 (some 65) #[true,true,true,true,true,true,true,true,true,true,true,true,true,true,true,true,true,true,true,true,true,false,false,false,false,false,false,false,false] ?_
        refine pu_ 21 (some 66) #[true,true,true,true,true,true,true,true,true,true,true,true,true,true,true,true,true,true,true,true,true,true,false,false,false,false,false,false,false] ?_
        refine pu_ 22 (some 67) #[true,true,true,true,true,true,true,true,true,true,true,true,true,true,true,true,true,true,true,true,true,true,true,false,false,false,false,false,false] ?_
        refine tk_ 23 (some 68) #[true,true,true,true,true,true,true,true,true,true,true,true,true,true,true,true,true,true,true,true,true,true,true,true,false,false,false,false,false] hHeld ?_
        refine pu_ 24 (some 69) #[true,true,true,true,true,true,true,true,true,true,true,true,true,true,true,true,true,true,true,true,true,true,true,true,true,false,false,false,false] ?_
        refine tk_ 25 (some 70) #[true,true,true,true,true,true,true,true,true,true,true,true,true,true,true,true,true,true,true,true,true,true,true,true,true,true,false,false,false] hHeld ?_
        refine oc_ 26 (some 71) #[true,true,true,true,true,true,true,true,true,true,true,true,true,true,true,true,true,true,true,true,true,true,true,true,true,true,true,false,false] Try.func47 #[.slice A o.length c,.slice A2 l2.length c2,.slice At t.f1.length ct,.int .i64 t.f0] (fun K hK=>?_)
        refine (leads47 A c o A2 c2 l2 At ct t.f1 t.f0 _ (cx_ (Kd.C_below HCo.out HB.out)) (cx_ (Kd.C_below HR2'.out HB.out)) (cx_ HCT.out) hl2 HK.out HW.out).mono ?_
        rw [hlb]
        rintro e w9 ⟨rfl,hb9⟩
        have HBT:=Aside0.mk (below_step (bx_:Below w6.heap.size w6 _) hb9)
        clear hb9
        refine ⟨_,rfl,?_⟩
        refine hk_ hK (fun hHeld=>?_) (⟨(HCE.out _ bx_).1,(HCE.out _ bx_).2.1,(HCE.out _ bx_).2.2,hdn,hcd⟩)
        clear hK K
        refine pu_ 27 (some 72) #[true,true,true,true,true,true,true,true,true,true,true,true,true,true,true,true,true,true,true,true,true,true,true,true,true,true,true,true,false] ?_
        refine pu_ 28 (some 73) #[true,true,true,true,true,true,true,true,true,true,true,true,true,true,true,true,true,true,true,true,true,true,true,true,true,true,true,true,true] ?_
        refine done_ (by kernel_rfl) ?_
        go_wp2_with fail
        go_ret
        refine ⟨?_,below_then HB0.out HB0.out.size (below_then HB.out HB.out.size HBT.out)⟩
        rw [← HFAIL.out (by unfold goodT;rw [HLB.out];simp)]
        rfl
       | true =>
        have HLB:=Aside0.mk hlb
        refine start_ (n:=29) (S:=fun w'=>w'.cell? ⟨bx,0,none⟩ = some (.int .i64 t.f0)∧w'.cell? ⟨bx,1,none⟩ = some (.slice At t.f1.length ct)∧w'.cell? (ad.add (ji.toNat * 2)) = some (.int .i64 y.f0)∧decide (0 < kk) = true∧decide (t.f0≤y.f0) = false) (ds:=[]) #[false,false,false,false,false,false,false,false,false,false,false,false,false,false,false,false,false,false,false,false,false,false,false,false,false,false,false,false,false] (by kernel_rfl) rfl rfl (⟨(HCE.out _ bx_).1,(HCE.out _ bx_).2.1,(HCE.out _ bx_).2.2,hdn,hcd⟩) (fun hHeld=>?_)
        refine pu_ 0 (some 45) #[true,false,false,false,false,false,false,false,false,false,false,false,false,false,false,false,false,false,false,false,false,false,false,false,false,false,false,false,false] ?_
        refine pu_ 1 (some 46) #[true,true,false,false,false,false,false,false,false,false,false,false,false,false,false,false,false,false,false,false,false,false,false,false,false,false,false,false,false] ?_
        refine pu_ 2 (some 47) #[true,true,true,false,false,false,false,false,false,false,false,false,false,false,false,false,false,false,false,false,false,false,false,false,false,false,false,false,false] ?_
        refine pu_ 3 (some 48) #[true,true,true,true,false,false,false,false,false,false,false,false,false,false,false,false,false,false,false,false,false,false,false,false,false,false,false,false,false] ?_
        refine tk_ 4 (some 49) #[true,true,true,true,true,false,false,false,false,false,false,false,false,false,false,false,false,false,false,false,false,false,false,false,false,false,false,false,false] hHeld ?_
        refine pu_ 5 (some 50) #[true,true,true,true,true,true,false,false,false,false,false,false,false,false,false,false,false,false,false,false,false,false,false,false,false,false,false,false,false] ?_
        refine pu_ 6 (some 51) #[true,true,true,true,true,true,true,false,false,false,false,false,false,false,false,false,false,false,false,false,false,false,false,false,false,false,false,false,false] ?_
        refine pu_ 7 (some 52) #[true,true,true,true,true,true,true,true,false,false,false,false,false,false,false,false,false,false,false,false,false,false,false,false,false,false,false,false,false] ?_
        refine pu_ 8 (some 53) #[true,true,true,true,true,true,true,true,true,false,false,false,false,false,false,false,false,false,false,false,false,false,false,false,false,false,false,false,false] ?_
        refine pu_ 9 (some 54) #[true,true,true,true,true,true,true,true,true,true,false,false,false,false,false,false,false,false,false,false,false,false,false,false,false,false,false,false,false] ?_
        refine tk_ 10 (some 55) #[true,true,true,true,true,true,true,true,true,true,true,false,false,false,false,false,false,false,false,false,false,false,false,false,false,false,false,false,false] hHeld ?_
        refine pu_ 11 (some 56) #[true,true,true,true,true,true,true,true,true,true,true,true,false,false,false,false,false,false,false,false,false,false,false,false,false,false,false,false,false] ?_
        refine pu_ 12 (some 57) #[true,true,true,true,true,true,true,true,true,true,true,true,true,false,false,false,false,false,false,false,false,false,false,false,false,false,false,false,false] ?_
        refine pu_ 13 (some 58) #[true,true,true,true,true,true,true,true,true,true,true,true,true,true,false,false,false,false,false,false,false,false,false,false,false,false,false,false,false] ?_
        refine pu_ 14 (some 59) #[true,true,true,true,true,true,true,true,true,true,true,true,true,true,true,false,false,false,false,false,false,false,false,false,false,false,false,false,false] ?_
        refine pu_ 15 (some 60) #[true,true,true,true,true,true,true,true,true,true,true,true,true,true,true,true,false,false,false,false,false,false,false,false,false,false,false,false,false] ?_
        refine tk_ 16 (some 61) #[true,true,true,true,true,true,true,true,true,true,true,true,true,true,true,true,true,false,false,false,false,false,false,false,false,false,false,false,false] hHeld ?_
        refine oc_ 17 (some 62) #[true,true,true,true,true,true,true,true,true,true,true,true,true,true,true,true,true,true,false,false,false,false,false,false,false,false,false,false,false] Try.func37 #[.slice A2 l2.length c2,.int .i64 t.f0] (fun K hK=>?_)
        refine (cont_is hxm A2 c2 _ (cx_ (Kd.C_below HR2'.out HB.out)) HC2.out).mono ?_
        rintro e w8 ⟨rfl,nd,rfl⟩
        refine ⟨_,rfl,?_⟩
        refine hk_ hK (fun hHeld=>?_) (⟨(HCE.out _ bx_).1,(HCE.out _ bx_).2.1,(HCE.out _ bx_).2.2,hdn,hcd⟩)
        clear hK K
        refine pu_ 18 (some 63) #[true,true,true,true,true,true,true,true,true,true,true,true,true,true,true,true,true,true,true,false,false,false,false,false,false,false,false,false,false] ?_
        refine pu_ 19 (some 64) #[true,true,true,true,true,true,true,true,true,true,true,true,true,true,true,true,true,true,true,true,false,false,false,false,false,false,false,false,false] ?_
        refine pu_ 20 (some 65) #[true,true,true,true,true,true,true,true,true,true,true,true,true,true,true,true,true,true,true,true,true,false,false,false,false,false,false,false,false] ?_
        refine pu_ 21 (some 66) #[true,true,true,true,true,true,true,true,true,true,true,true,true,true,true,true,true,true,true,true,true,true,false,false,false,false,false,false,false] ?_
        refine pu_ 22 (some 67) #[true,true,true,true,true,true,true,true,true,true,true,true,true,true,true,true,true,true,true,true,true,true,true,false,false,false,false,false,false] ?_
        refine tk_ 23 (some 68) #[true,true,true,true,true,true,true,true,true,true,true,true,true,true,true,true,true,true,true,true,true,true,true,true,false,false,false,false,false] hHeld ?_
        refine pu_ 24 (some 69) #[true,true,true,true,true,true,true,true,true,true,true,true,true,true,true,true,true,true,true,true,true,true,true,true,true,false,false,false,false] ?_
        refine tk_ 25 (some 70) #[true,true,true,true,true,true,true,true,true,true,true,true,true,true,true,true,true,true,true,true,true,true,true,true,true,true,false,false,false] hHeld ?_
        refine oc_ 26 (some 71) #[true,true,true,true,true,true,true,true,true,true,true,true,true,true,true,true,true,true,true,true,true,true,true,true,true,true,true,false,false] Try.func47 #[.slice A o.length c,.slice A2 l2.length c2,.slice At t.f1.length ct,.int .i64 t.f0] (fun K hK=>?_)
        refine (leads47 A c o A2 c2 l2 At ct t.f1 t.f0 _ (cx_ (Kd.C_below HCo.out HB.out)) (cx_ (Kd.C_below HR2'.out HB.out)) (cx_ HCT.out) hl2 HK.out HW.out).mono ?_
        rw [hlb]
        rintro e w9 ⟨rfl,hb9⟩
        have HBT:=Aside0.mk (below_step (bx_:Below w6.heap.size w6 _) hb9)
        clear hb9
        refine ⟨_,rfl,?_⟩
        refine hk_ hK (fun hHeld=>?_) (⟨(HCE.out _ bx_).1,(HCE.out _ bx_).2.1,(HCE.out _ bx_).2.2,hdn,hcd⟩)
        clear hK K
        refine pu_ 27 (some 72) #[true,true,true,true,true,true,true,true,true,true,true,true,true,true,true,true,true,true,true,true,true,true,true,true,true,true,true,true,false] ?_
        refine pu_ 28 (some 73) #[true,true,true,true,true,true,true,true,true,true,true,true,true,true,true,true,true,true,true,true,true,true,true,true,true,true,true,true,true] ?_
        refine done_ (by kernel_rfl) ?_
        have HM9:=Aside0.mk (HM.out.below HBT.out)
        have HB9:=Aside0.mk (below_then HB.out HB.out.size HBT.out)
        have HBX9:=Aside0.mk (blk_below HBX.out HBT.out)
        have q0:w9.cell? ⟨bx,0,none⟩ = some (.int .i64 t.f0):=blk_cell HBX9.out 0
        have HGT:=Aside0.mk (show goodT o l2 (prevT l3 kk) t = true by unfold goodT;rw [HXM.out,HLB.out];rw [HPV.out];show (decide (y.f0 < t.f0) && (!false && true)) = true;rw [HCP.out];rfl)
        go_wp2_with (at_mapUpdate;refine MapV.update HM9.out 43 4 Try.underlying43 rfl _ _ _ rfl rfl (by omega) t.f0 (.bool true) rfl rfl HW.out ?_;intro w10 hM10 hG10)
        go_roundg (l3.length - (kk + 1))
        case measure=>omega
        case rel =>
         refine ⟨kk + 1,by omega,by omega,by go_num,⟨?_⟩,⟨?_⟩,⟨pw_below_grown HB9.out _ HB9.out.size hG10 (fun k hk=>by injection hk with hk;omega)⟩⟩
         ·rw [HPN.out,HAL.out,HGT.out,Bool.true_and]
         ·have h:=hM10
          rw [bF_put,insT_snoc,← take_snoc_of HG.out] at h
          exact h
     ·have hdn:decide (0 < kk) = false:=decide_eq_false hk0
      have hk0z:¬ (0:Int) < (kk:Int):=by omega
      have HPV:=Aside0.mk (show prevT l3 kk = none by unfold prevT;rw [if_pos (by omega)])
      have HCE:=Aside0.mk (show ∀ W',Below w6.heap.size w6 W'→W'.cell? ⟨bx,0,none⟩ = some (.int .i64 t.f0)∧W'.cell? ⟨bx,1,none⟩ = some (.slice At t.f1.length ct) from fun W' hW=>⟨pw_cell_below hW (blk_cell HBX.out 0),pw_cell_below hW (blk_cell HBX.out 1)⟩)
      obtain ⟨k0,k1⟩:=HCE.out w6 HBS.out
      cases hxm:decide (t.f0 ∈ l2) with
      | true =>
       have HXM:=Aside0.mk hxm
       refine start_ (n:=29) (S:=fun w'=>w'.cell? ⟨bx,0,none⟩ = some (.int .i64 t.f0)∧w'.cell? ⟨bx,1,none⟩ = some (.slice At t.f1.length ct)∧decide (0 < kk) = false) (ds:=[]) #[false,false,false,false,false,false,false,false,false,false,false,false,false,false,false,false,false,false,false,false,false,false,false,false,false,false,false,false,false] (by kernel_rfl) rfl rfl (⟨(HCE.out _ bx_).1,(HCE.out _ bx_).2,hdn⟩) (fun hHeld=>?_)
       refine pu_ 0 (some 45) #[true,false,false,false,false,false,false,false,false,false,false,false,false,false,false,false,false,false,false,false,false,false,false,false,false,false,false,false,false] ?_
       refine pu_ 1 (some 46) #[true,true,false,false,false,false,false,false,false,false,false,false,false,false,false,false,false,false,false,false,false,false,false,false,false,false,false,false,false] ?_
       refine pu_ 2 (some 47) #[true,true,true,false,false,false,false,false,false,false,false,false,false,false,false,false,false,false,false,false,false,false,false,false,false,false,false,false,false] ?_
       refine pure_ (i:=3) (N:=(some 48)) (v:=undef) (a':=?_) #[true,true,true,true,false,false,false,false,false,false,false,false,false,false,false,false,false,false,false,false,false,false,false,false,false,false,false,false,false] rfl rfl (by kernel_rfl) (fun _ _ _ h=>h) (Or.inr ⟨by rfl,rfl⟩) ?_ ?_
       rotate_left
       ·simp only [Act.put,List.setIfInBounds_toArray,List.set_cons_zero,List.set_cons_succ,i64_w,i32_w]
        rfl
       refine pure_ (i:=4) (N:=(some 49)) (v:=undef) (a':=?_) #[true,true,true,true,true,false,false,false,false,false,false,false,false,false,false,false,false,false,false,false,false,false,false,false,false,false,false,false,false] rfl rfl (by kernel_rfl) (fun _ _ _ h=>h) (Or.inr ⟨by rfl,rfl⟩) ?_ ?_
       rotate_left
       ·simp only [Act.put,List.setIfInBounds_toArray,List.set_cons_zero,List.set_cons_succ,i64_w,i32_w]
        rfl
       refine pure_ (i:=5) (N:=(some 50)) (v:=undef) (a':=?_) #[true,true,true,true,true,true,false,false,false,false,false,false,false,false,false,false,false,false,false,false,false,false,false,false,false,false,false,false,false] rfl rfl (by kernel_rfl) (fun _ _ _ h=>h) (Or.inr ⟨by rfl,rfl⟩) ?_ ?_
       rotate_left
       ·simp only [Act.put,List.setIfInBounds_toArray,List.set_cons_zero,List.set_cons_succ,i64_w,i32_w]
        rfl
       refine pure_ (i:=6) (N:=(some 51)) (v:=undef) (a':=?_) #[true,true,true,true,true,true,true,false,false,false,false,false,false,false,false,false,false,false,false,false,false,false,false,false,false,false,false,false,false] rfl rfl (by kernel_rfl) (fun _ _ _ h=>h) (Or.inr ⟨by rfl,rfl⟩) ?_ ?_
       rotate_left
       ·simp only [Act.put,List.setIfInBounds_toArray,List.set_cons_zero,List.set_cons_succ,i64_w,i32_w]
        rfl
       refine pure_ (i:=7) (N:=(some 52)) (v:=undef) (a':=?_) #[true,true,true,true,true,true,true,true,false,false,false,false,false,false,false,false,false,false,false,false,false,false,false,false,false,false,false,false,false] rfl rfl (by kernel_rfl) (fun _ _ _ h=>h) (Or.inr ⟨by rfl,rfl⟩) ?_ ?_
       rotate_left
       ·simp only [Act.put,List.setIfInBounds_toArray,List.set_cons_zero,List.set_cons_succ,i64_w,i32_w]
        rfl
       refine pure_ (i:=8) (N:=(some 53)) (v:=undef) (a':=?_) #[true,true,true,true,true,true,true,true,true,false,false,false,false,false,false,false,false,false,false,false,false,false,false,false,false,false,false,false,false] rfl rfl (by kernel_rfl) (fun _ _ _ h=>h) (Or.inr ⟨by rfl,rfl⟩) ?_ ?_
       rotate_left
       ·simp only [Act.put,List.setIfInBounds_toArray,List.set_cons_zero,List.set_cons_succ,i64_w,i32_w]
        rfl
       refine pure_ (i:=9) (N:=(some 54)) (v:=undef) (a':=?_) #[true,true,true,true,true,true,true,true,true,true,false,false,false,false,false,false,false,false,false,false,false,false,false,false,false,false,false,false,false] rfl rfl (by kernel_rfl) (fun _ _ _ h=>h) (Or.inr ⟨by rfl,rfl⟩) ?_ ?_
       rotate_left
       ·simp only [Act.put,List.setIfInBounds_toArray,List.set_cons_zero,List.set_cons_succ,i64_w,i32_w]
        rfl
       refine pure_ (i:=10) (N:=(some 55)) (v:=undef) (a':=?_) #[true,true,true,true,true,true,true,true,true,true,true,false,false,false,false,false,false,false,false,false,false,false,false,false,false,false,false,false,false] rfl rfl (by kernel_rfl) (fun _ _ _ h=>h) (Or.inr ⟨by rfl,rfl⟩) ?_ ?_
       rotate_left
       ·simp only [Act.put,List.setIfInBounds_toArray,List.set_cons_zero,List.set_cons_succ,i64_w,i32_w]
        rfl
       refine pure_ (i:=11) (N:=(some 56)) (v:=undef) (a':=?_) #[true,true,true,true,true,true,true,true,true,true,true,true,false,false,false,false,false,false,false,false,false,false,false,false,false,false,false,false,false] rfl rfl (by kernel_rfl) (fun _ _ _ h=>h) (Or.inr ⟨by rfl,rfl⟩) ?_ ?_
       rotate_left
       ·simp only [Act.put,List.setIfInBounds_toArray,List.set_cons_zero,List.set_cons_succ,i64_w,i32_w]
        rfl
       refine pu_ 12 (some 57) #[true,true,true,true,true,true,true,true,true,true,true,true,true,false,false,false,false,false,false,false,false,false,false,false,false,false,false,false,false] ?_
       refine pu_ 13 (some 58) #[true,true,true,true,true,true,true,true,true,true,true,true,true,true,false,false,false,false,false,false,false,false,false,false,false,false,false,false,false] ?_
       refine pu_ 14 (some 59) #[true,true,true,true,true,true,true,true,true,true,true,true,true,true,true,false,false,false,false,false,false,false,false,false,false,false,false,false,false] ?_
       refine pu_ 15 (some 60) #[true,true,true,true,true,true,true,true,true,true,true,true,true,true,true,true,false,false,false,false,false,false,false,false,false,false,false,false,false] ?_
       refine tk_ 16 (some 61) #[true,true,true,true,true,true,true,true,true,true,true,true,true,true,true,true,true,false,false,false,false,false,false,false,false,false,false,false,false] hHeld ?_
       refine oc_ 17 (some 62) #[true,true,true,true,true,true,true,true,true,true,true,true,true,true,true,true,true,true,false,false,false,false,false,false,false,false,false,false,false] Try.func37 #[.slice A2 l2.length c2,.int .i64 t.f0] (fun K hK=>?_)
       refine (cont_is hxm A2 c2 _ (cx_ (Kd.C_below HR2'.out HB.out)) HC2.out).mono ?_
       rintro e w8 ⟨rfl,nd,rfl⟩
       refine ⟨_,rfl,?_⟩
       refine hk_ hK (fun hHeld=>?_) (⟨(HCE.out _ bx_).1,(HCE.out _ bx_).2,hdn⟩)
       clear hK K
       refine pu_ 18 (some 63) #[true,true,true,true,true,true,true,true,true,true,true,true,true,true,true,true,true,true,true,false,false,false,false,false,false,false,false,false,false] ?_
       refine pu_ 19 (some 64) #[true,true,true,true,true,true,true,true,true,true,true,true,true,true,true,true,true,true,true,true,false,false,false,false,false,false,false,false,false] ?_
       refine pure_ (i:=20) (N:=(some 65)) (v:=undef) (a':=?_) #[true,true,true,true,true,true,true,true,true,true,true,true,true,true,true,true,true,true,true,true,true,false,false,false,false,false,false,false,false] rfl rfl (by kernel_rfl) (fun _ _ _ h=>h) (Or.inr ⟨by rfl,rfl⟩) ?_ ?_
       rotate_left
       ·simp only [Act.put,List.setIfInBounds_toArray,List.set_cons_zero,List.set_cons_succ,i64_w,i32_w]
        rfl
       refine pure_ (i:=21) (N:=(some 66)) (v:=undef) (a':=?_) #[true,true,true,true,true,true,true,true,true,true,true,true,true,true,true,true,true,true,true,true,true,true,false,false,false,false,false,false,false] rfl rfl (by kernel_rfl) (fun _ _ _ h=>h) (Or.inr ⟨by rfl,rfl⟩) ?_ ?_
       rotate_left
       ·simp only [Act.put,List.setIfInBounds_toArray,List.set_cons_zero,List.set_cons_succ,i64_w,i32_w]
        rfl
       refine pure_ (i:=22) (N:=(some 67)) (v:=undef) (a':=?_) #[true,true,true,true,true,true,true,true,true,true,true,true,true,true,true,true,true,true,true,true,true,true,true,false,false,false,false,false,false] rfl rfl (by kernel_rfl) (fun _ _ _ h=>h) (Or.inr ⟨by rfl,rfl⟩) ?_ ?_
       rotate_left
       ·simp only [Act.put,List.setIfInBounds_toArray,List.set_cons_zero,List.set_cons_succ,i64_w,i32_w]
        rfl
       refine pure_ (i:=23) (N:=(some 68)) (v:=undef) (a':=?_) #[true,true,true,true,true,true,true,true,true,true,true,true,true,true,true,true,true,true,true,true,true,true,true,true,false,false,false,false,false] rfl rfl (by kernel_rfl) (fun _ _ _ h=>h) (Or.inr ⟨by rfl,rfl⟩) ?_ ?_
       rotate_left
       ·simp only [Act.put,List.setIfInBounds_toArray,List.set_cons_zero,List.set_cons_succ,i64_w,i32_w]
        rfl
       refine pure_ (i:=24) (N:=(some 69)) (v:=undef) (a':=?_) #[true,true,true,true,true,true,true,true,true,true,true,true,true,true,true,true,true,true,true,true,true,true,true,true,true,false,false,false,false] rfl rfl (by kernel_rfl) (fun _ _ _ h=>h) (Or.inr ⟨by rfl,rfl⟩) ?_ ?_
       rotate_left
       ·simp only [Act.put,List.setIfInBounds_toArray,List.set_cons_zero,List.set_cons_succ,i64_w,i32_w]
        rfl
       refine pure_ (i:=25) (N:=(some 70)) (v:=undef) (a':=?_) #[true,true,true,true,true,true,true,true,true,true,true,true,true,true,true,true,true,true,true,true,true,true,true,true,true,true,false,false,false] rfl rfl (by kernel_rfl) (fun _ _ _ h=>h) (Or.inr ⟨by rfl,rfl⟩) ?_ ?_
       rotate_left
       ·simp only [Act.put,List.setIfInBounds_toArray,List.set_cons_zero,List.set_cons_succ,i64_w,i32_w]
        rfl
       refine pure_ (i:=26) (N:=(some 71)) (v:=undef) (a':=?_) #[true,true,true,true,true,true,true,true,true,true,true,true,true,true,true,true,true,true,true,true,true,true,true,true,true,true,true,false,false] rfl rfl (by kernel_rfl) (fun _ _ _ h=>h) (Or.inr ⟨by rfl,rfl⟩) ?_ ?_
       rotate_left
       ·simp only [Act.put,List.setIfInBounds_toArray,List.set_cons_zero,List.set_cons_succ,i64_w,i32_w]
        rfl
       refine pure_ (i:=27) (N:=(some 72)) (v:=undef) (a':=?_) #[true,true,true,true,true,true,true,true,true,true,true,true,true,true,true,true,true,true,true,true,true,true,true,true,true,true,true,true,false] rfl rfl (by kernel_rfl) (fun _ _ _ h=>h) (Or.inr ⟨by rfl,rfl⟩) ?_ ?_
       rotate_left
       ·simp only [Act.put,List.setIfInBounds_toArray,List.set_cons_zero,List.set_cons_succ,i64_w,i32_w]
        rfl
       refine pu_ 28 (some 73) #[true,true,true,true,true,true,true,true,true,true,true,true,true,true,true,true,true,true,true,true,true,true,true,true,true,true,true,true,true] ?_
       refine done_ (by kernel_rfl) ?_
       go_wp2_with fail
       go_ret
       refine ⟨?_,below_then HB0.out HB0.out.size (below_then HB.out HB.out.size bx_)⟩
       rw [← HFAIL.out (by unfold goodT;rw [HXM.out];simp)]
       rfl
      | false =>
       have HXM:=Aside0.mk hxm
       cases hlb:leadsB o l2 t.f1 t.f0 with
       | false =>
        have HLB:=Aside0.mk hlb
        refine start_ (n:=29) (S:=fun w'=>w'.cell? ⟨bx,0,none⟩ = some (.int .i64 t.f0)∧w'.cell? ⟨bx,1,none⟩ = some (.slice At t.f1.length ct)∧decide (0 < kk) = false) (ds:=[]) #[false,false,false,false,false,false,false,false,false,false,false,false,false,false,false,false,false,false,false,false,false,false,false,false,false,false,false,false,false] (by kernel_rfl) rfl rfl (⟨(HCE.out _ bx_).1,(HCE.out _ bx_).2,hdn⟩) (fun hHeld=>?_)
        refine pu_ 0 (some 45) #[true,false,false,false,false,false,false,false,false,false,false,false,false,false,false,false,false,false,false,false,false,false,false,false,false,false,false,false,false] ?_
        refine pu_ 1 (some 46) #[true,true,false,false,false,false,false,false,false,false,false,false,false,false,false,false,false,false,false,false,false,false,false,false,false,false,false,false,false] ?_
        refine pu_ 2 (some 47) #[true,true,true,false,false,false,false,false,false,false,false,false,false,false,false,false,false,false,false,false,false,false,false,false,false,false,false,false,false] ?_
        refine pure_ (i:=3) (N:=(some 48)) (v:=undef) (a':=?_) #[true,true,true,true,false,false,false,false,false,false,false,false,false,false,false,false,false,false,false,false,false,false,false,false,false,false,false,false,false] rfl rfl (by kernel_rfl) (fun _ _ _ h=>h) (Or.inr ⟨by rfl,rfl⟩) ?_ ?_
        rotate_left
        ·simp only [Act.put,List.setIfInBounds_toArray,List.set_cons_zero,List.set_cons_succ,i64_w,i32_w]
         rfl
        refine pure_ (i:=4) (N:=(some 49)) (v:=undef) (a':=?_) #[true,true,true,true,true,false,false,false,false,false,false,false,false,false,false,false,false,false,false,false,false,false,false,false,false,false,false,false,false] rfl rfl (by kernel_rfl) (fun _ _ _ h=>h) (Or.inr ⟨by rfl,rfl⟩) ?_ ?_
        rotate_left
        ·simp only [Act.put,List.setIfInBounds_toArray,List.set_cons_zero,List.set_cons_succ,i64_w,i32_w]
         rfl
        refine pure_ (i:=5) (N:=(some 50)) (v:=undef) (a':=?_) #[true,true,true,true,true,true,false,false,false,false,false,false,false,false,false,false,false,false,false,false,false,false,false,false,false,false,false,false,false] rfl rfl (by kernel_rfl) (fun _ _ _ h=>h) (Or.inr ⟨by rfl,rfl⟩) ?_ ?_
        rotate_left
        ·simp only [Act.put,List.setIfInBounds_toArray,List.set_cons_zero,List.set_cons_succ,i64_w,i32_w]
         rfl
        refine pure_ (i:=6) (N:=(some 51)) (v:=undef) (a':=?_) #[true,true,true,true,true,true,true,false,false,false,false,false,false,false,false,false,false,false,false,false,false,false,false,false,false,false,false,false,false] rfl rfl (by kernel_rfl) (fun _ _ _ h=>h) (Or.inr ⟨by rfl,rfl⟩) ?_ ?_
        rotate_left
        ·simp only [Act.put,List.setIfInBounds_toArray,List.set_cons_zero,List.set_cons_succ,i64_w,i32_w]
         rfl
        refine pure_ (i:=7) (N:=(some 52)) (v:=undef) (a':=?_) #[true,true,true,true,true,true,true,true,false,false,false,false,false,false,false,false,false,false,false,false,false,false,false,false,false,false,false,false,false] rfl rfl (by kernel_rfl) (fun _ _ _ h=>h) (Or.inr ⟨by rfl,rfl⟩) ?_ ?_
        rotate_left
        ·simp only [Act.put,List.setIfInBounds_toArray,List.set_cons_zero,List.set_cons_succ,i64_w,i32_w]
         rfl
        refine pure_ (i:=8) (N:=(some 53)) (v:=undef) (a':=?_) #[true,true,true,true,true,true,true,true,true,false,false,false,false,false,false,false,false,false,false,false,false,false,false,false,false,false,false,false,false] rfl rfl (by kernel_rfl) (fun _ _ _ h=>h) (Or.inr ⟨by rfl,rfl⟩) ?_ ?_
        rotate_left
        ·simp only [Act.put,List.setIfInBounds_toArray,List.set_cons_zero,List.set_cons_succ,i64_w,i32_w]
         rfl
        refine pure_ (i:=9) (N:=(some 54)) (v:=undef) (a':=?_) #[true,true,true,true,true,true,true,true,true,true,false,false,false,false,false,false,false,false,false,false,false,false,false,false,false,false,false,false,false] rfl rfl (by kernel_rfl) (fun _ _ _ h=>h) (Or.inr ⟨by rfl,rfl⟩) ?_ ?_
        rotate_left
        ·simp only [Act.put,List.setIfInBounds_toArray,List.set_cons_zero,List.set_cons_succ,i64_w,i32_w]
         rfl
        refine pure_ (i:=10) (N:=(some 55)) (v:=undef) (a':=?_) #[true,true,true,true,true,true,true,true,true,true,true,false,false,false,false,false,false,false,false,false,false,false,false,false,false,false,false,false,false] rfl rfl (by kernel_rfl) (fun _ _ _ h=>h) (Or.inr ⟨by rfl,rfl⟩) ?_ ?_
        rotate_left
        ·simp only [Act.put,List.setIfInBounds_toArray,List.set_cons_zero,List.set_cons_succ,i64_w,i32_w]
         rfl
        refine pure_ (i:=11) (N:=(some 56)) (v:=undef) (a':=?_) #[true,true,true,true,true,true,true,true,true,true,true,true,false,false,false,false,false,false,false,false,false,false,false,false,false,false,false,false,false] rfl rfl (by kernel_rfl) (fun _ _ _ h=>h) (Or.inr ⟨by rfl,rfl⟩) ?_ ?_
        rotate_left
        ·simp only [Act.put,List.setIfInBounds_toArray,List.set_cons_zero,List.set_cons_succ,i64_w,i32_w]
         rfl
        refine pu_ 12 (some 57) #[true,true,true,true,true,true,true,true,true,true,true,true,true,false,false,false,false,false,false,false,false,false,false,false,false,false,false,false,false] ?_
        refine pu_ 13 (some 58) #[true,true,true,true,true,true,true,true,true,true,true,true,true,true,false,false,false,false,false,false,false,false,false,false,false,false,false,false,false] ?_
        refine pu_ 14 (some 59) #[true,true,true,true,true,true,true,true,true,true,true,true,true,true,true,false,false,false,false,false,false,false,false,false,false,false,false,false,false] ?_
        refine pu_ 15 (some 60) #[true,true,true,true,true,true,true,true,true,true,true,true,true,true,true,true,false,false,false,false,false,false,false,false,false,false,false,false,false] ?_
        refine tk_ 16 (some 61) #[true,true,true,true,true,true,true,true,true,true,true,true,true,true,true,true,true,false,false,false,false,false,false,false,false,false,false,false,false] hHeld ?_
        refine oc_ 17 (some 62) #[true,true,true,true,true,true,true,true,true,true,true,true,true,true,true,true,true,true,false,false,false,false,false,false,false,false,false,false,false] Try.func37 #[.slice A2 l2.length c2,.int .i64 t.f0] (fun K hK=>?_)
        refine (cont_is hxm A2 c2 _ (cx_ (Kd.C_below HR2'.out HB.out)) HC2.out).mono ?_
        rintro e w8 ⟨rfl,nd,rfl⟩
        refine ⟨_,rfl,?_⟩
        refine hk_ hK (fun hHeld=>?_) (⟨(HCE.out _ bx_).1,(HCE.out _ bx_).2,hdn⟩)
        clear hK K
        refine pu_ 18 (some 63) #[true,true,true,true,true,true,true,true,true,true,true,true,true,true,true,true,true,true,true,false,false,false,false,false,false,false,false,false,false] ?_
        refine pu_ 19 (some 64) #[true,true,true,true,true,true,true,true,true,true,true,true,true,true,true,true,true,true,true,true,false,false,false,false,false,false,false,false,false] ?_
        refine pu_ 20 (some 65) #[true,true,true,true,true,true,true,true,true,true,true,true,true,true,true,true,true,true,true,true,true,false,false,false,false,false,false,false,false] ?_
        refine pu_ 21 (some 66) #[true,true,true,true,true,true,true,true,true,true,true,true,true,true,true,true,true,true,true,true,true,true,false,false,false,false,false,false,false] ?_
        refine pu_ 22 (some 67) #[true,true,true,true,true,true,true,true,true,true,true,true,true,true,true,true,true,true,true,true,true,true,true,false,false,false,false,false,false] ?_
        refine tk_ 23 (some 68) #[true,true,true,true,true,true,true,true,true,true,true,true,true,true,true,true,true,true,true,true,true,true,true,true,false,false,false,false,false] hHeld ?_
        refine pu_ 24 (some 69) #[true,true,true,true,true,true,true,true,true,true,true,true,true,true,true,true,true,true,true,true,true,true,true,true,true,false,false,false,false] ?_
        refine tk_ 25 (some 70) #[true,true,true,true,true,true,true,true,true,true,true,true,true,true,true,true,true,true,true,true,true,true,true,true,true,true,false,false,false] hHeld ?_
        refine oc_ 26 (some 71) #[true,true,true,true,true,true,true,true,true,true,true,true,true,true,true,true,true,true,true,true,true,true,true,true,true,true,true,false,false] Try.func47 #[.slice A o.length c,.slice A2 l2.length c2,.slice At t.f1.length ct,.int .i64 t.f0] (fun K hK=>?_)
        refine (leads47 A c o A2 c2 l2 At ct t.f1 t.f0 _ (cx_ (Kd.C_below HCo.out HB.out)) (cx_ (Kd.C_below HR2'.out HB.out)) (cx_ HCT.out) hl2 HK.out HW.out).mono ?_
        rw [hlb]
        rintro e w9 ⟨rfl,hb9⟩
        have HBT:=Aside0.mk (below_step (bx_:Below w6.heap.size w6 _) hb9)
        clear hb9
        refine ⟨_,rfl,?_⟩
        refine hk_ hK (fun hHeld=>?_) (⟨(HCE.out _ bx_).1,(HCE.out _ bx_).2,hdn⟩)
        clear hK K
        refine pu_ 27 (some 72) #[true,true,true,true,true,true,true,true,true,true,true,true,true,true,true,true,true,true,true,true,true,true,true,true,true,true,true,true,false] ?_
        refine pu_ 28 (some 73) #[true,true,true,true,true,true,true,true,true,true,true,true,true,true,true,true,true,true,true,true,true,true,true,true,true,true,true,true,true] ?_
        refine done_ (by kernel_rfl) ?_
        go_wp2_with fail
        go_ret
        refine ⟨?_,below_then HB0.out HB0.out.size (below_then HB.out HB.out.size HBT.out)⟩
        rw [← HFAIL.out (by unfold goodT;rw [HLB.out];simp)]
        rfl
       | true =>
        have HLB:=Aside0.mk hlb
        refine start_ (n:=29) (S:=fun w'=>w'.cell? ⟨bx,0,none⟩ = some (.int .i64 t.f0)∧w'.cell? ⟨bx,1,none⟩ = some (.slice At t.f1.length ct)∧decide (0 < kk) = false) (ds:=[]) #[false,false,false,false,false,false,false,false,false,false,false,false,false,false,false,false,false,false,false,false,false,false,false,false,false,false,false,false,false] (by kernel_rfl) rfl rfl (⟨(HCE.out _ bx_).1,(HCE.out _ bx_).2,hdn⟩) (fun hHeld=>?_)
        refine pu_ 0 (some 45) #[true,false,false,false,false,false,false,false,false,false,false,false,false,false,false,false,false,false,false,false,false,false,false,false,false,false,false,false,false] ?_
        refine pu_ 1 (some 46) #[true,true,false,false,false,false,false,false,false,false,false,false,false,false,false,false,false,false,false,false,false,false,false,false,false,false,false,false,false] ?_
        refine pu_ 2 (some 47) #[true,true,true,false,false,false,false,false,false,false,false,false,false,false,false,false,false,false,false,false,false,false,false,false,false,false,false,false,false] ?_
        refine pure_ (i:=3) (N:=(some 48)) (v:=undef) (a':=?_) #[true,true,true,true,false,false,false,false,false,false,false,false,false,false,false,false,false,false,false,false,false,false,false,false,false,false,false,false,false] rfl rfl (by kernel_rfl) (fun _ _ _ h=>h) (Or.inr ⟨by rfl,rfl⟩) ?_ ?_
        rotate_left
        ·simp only [Act.put,List.setIfInBounds_toArray,List.set_cons_zero,List.set_cons_succ,i64_w,i32_w]
         rfl
        refine pure_ (i:=4) (N:=(some 49)) (v:=undef) (a':=?_) #[true,true,true,true,true,false,false,false,false,false,false,false,false,false,false,false,false,false,false,false,false,false,false,false,false,false,false,false,false] rfl rfl (by kernel_rfl) (fun _ _ _ h=>h) (Or.inr ⟨by rfl,rfl⟩) ?_ ?_
        rotate_left
        ·simp only [Act.put,List.setIfInBounds_toArray,List.set_cons_zero,List.set_cons_succ,i64_w,i32_w]
         rfl
        refine pure_ (i:=5) (N:=(some 50)) (v:=undef) (a':=?_) #[true,true,true,true,true,true,false,false,false,false,false,false,false,false,false,false,false,false,false,false,false,false,false,false,false,false,false,false,false] rfl rfl (by kernel_rfl) (fun _ _ _ h=>h) (Or.inr ⟨by rfl,rfl⟩) ?_ ?_
        rotate_left
        ·simp only [Act.put,List.setIfInBounds_toArray,List.set_cons_zero,List.set_cons_succ,i64_w,i32_w]
         rfl
        refine pure_ (i:=6) (N:=(some 51)) (v:=undef) (a':=?_) #[true,true,true,true,true,true,true,false,false,false,false,false,false,false,false,false,false,false,false,false,false,false,false,false,false,false,false,false,false] rfl rfl (by kernel_rfl) (fun _ _ _ h=>h) (Or.inr ⟨by rfl,rfl⟩) ?_ ?_
        rotate_left
        ·simp only [Act.put,List.setIfInBounds_toArray,List.set_cons_zero,List.set_cons_succ,i64_w,i32_w]
         rfl
        refine pure_ (i:=7) (N:=(some 52)) (v:=undef) (a':=?_) #[true,true,true,true,true,true,true,true,false,false,false,false,false,false,false,false,false,false,false,false,false,false,false,false,false,false,false,false,false] rfl rfl (by kernel_rfl) (fun _ _ _ h=>h) (Or.inr ⟨by rfl,rfl⟩) ?_ ?_
        rotate_left
        ·simp only [Act.put,List.setIfInBounds_toArray,List.set_cons_zero,List.set_cons_succ,i64_w,i32_w]
         rfl
        refine pure_ (i:=8) (N:=(some 53)) (v:=undef) (a':=?_) #[true,true,true,true,true,true,true,true,true,false,false,false,false,false,false,false,false,false,false,false,false,false,false,false,false,false,false,false,false] rfl rfl (by kernel_rfl) (fun _ _ _ h=>h) (Or.inr ⟨by rfl,rfl⟩) ?_ ?_
        rotate_left
        ·simp only [Act.put,List.setIfInBounds_toArray,List.set_cons_zero,List.set_cons_succ,i64_w,i32_w]
         rfl
        refine pure_ (i:=9) (N:=(some 54)) (v:=undef) (a':=?_) #[true,true,true,true,true,true,true,true,true,true,false,false,false,false,false,false,false,false,false,false,false,false,false,false,false,false,false,false,false] rfl rfl (by kernel_rfl) (fun _ _ _ h=>h) (Or.inr ⟨by rfl,rfl⟩) ?_ ?_
        rotate_left
        ·simp only [Act.put,List.setIfInBounds_toArray,List.set_cons_zero,List.set_cons_succ,i64_w,i32_w]
         rfl
        refine pure_ (i:=10) (N:=(some 55)) (v:=undef) (a':=?_) #[true,true,true,true,true,true,true,true,true,true,true,false,false,false,false,false,false,false,false,false,false,false,false,false,false,false,false,false,false] rfl rfl (by kernel_rfl) (fun _ _ _ h=>h) (Or.inr ⟨by rfl,rfl⟩) ?_ ?_
        rotate_left
        ·simp only [Act.put,List.setIfInBounds_toArray,List.set_cons_zero,List.set_cons_succ,i64_w,i32_w]
         rfl
        refine pure_ (i:=11) (N:=(some 56)) (v:=undef) (a':=?_) #[true,true,true,true,true,true,true,true,true,true,true,true,false,false,false,false,false,false,false,false,false,false,false,false,false,false,false,false,false] rfl rfl (by kernel_rfl) (fun _ _ _ h=>h) (Or.inr ⟨by rfl,rfl⟩) ?_ ?_
        rotate_left
        ·simp only [Act.put,List.setIfInBounds_toArray,List.set_cons_zero,List.set_cons_succ,i64_w,i32_w]
         rfl
        refine pu_ 12 (some 57) #[true,true,true,true,true,true,true,true,true,true,true,true,true,false,false,false,false,false,false,false,false,false,false,false,false,false,false,false,false] ?_
        refine pu_ 13 (some 58) #[true,true,true,true,true,true,true,true,true,true,true,true,true,true,false,false,false,false,false,false,false,false,false,false,false,false,false,false,false] ?_
        refine pu_ 14 (some 59) #[true,true,true,true,true,true,true,true,true,true,true,true,true,true,true,false,false,false,false,false,false,false,false,false,false,false,false,false,false] ?_
        refine pu_ 15 (some 60) #[true,true,true,true,true,true,true,true,true,true,true,true,true,true,true,true,false,false,false,false,false,false,false,false,false,false,false,false,false] ?_
        refine tk_ 16 (some 61) #[true,true,true,true,true,true,true,true,true,true,true,true,true,true,true,true,true,false,false,false,false,false,false,false,false,false,false,false,false] hHeld ?_
        refine oc_ 17 (some 62) #[true,true,true,true,true,true,true,true,true,true,true,true,true,true,true,true,true,true,false,false,false,false,false,false,false,false,false,false,false] Try.func37 #[.slice A2 l2.length c2,.int .i64 t.f0] (fun K hK=>?_)
        refine (cont_is hxm A2 c2 _ (cx_ (Kd.C_below HR2'.out HB.out)) HC2.out).mono ?_
        rintro e w8 ⟨rfl,nd,rfl⟩
        refine ⟨_,rfl,?_⟩
        refine hk_ hK (fun hHeld=>?_) (⟨(HCE.out _ bx_).1,(HCE.out _ bx_).2,hdn⟩)
        clear hK K
        refine pu_ 18 (some 63) #[true,true,true,true,true,true,true,true,true,true,true,true,true,true,true,true,true,true,true,false,false,false,false,false,false,false,false,false,false] ?_
        refine pu_ 19 (some 64) #[true,true,true,true,true,true,true,true,true,true,true,true,true,true,true,true,true,true,true,true,false,false,false,false,false,false,false,false,false] ?_
        refine pu_ 20 (some 65) #[true,true,true,true,true,true,true,true,true,true,true,true,true,true,true,true,true,true,true,true,true,false,false,false,false,false,false,false,false] ?_
        refine pu_ 21 (some 66) #[true,true,true,true,true,true,true,true,true,true,true,true,true,true,true,true,true,true,true,true,true,true,false,false,false,false,false,false,false] ?_
        refine pu_ 22 (some 67) #[true,true,true,true,true,true,true,true,true,true,true,true,true,true,true,true,true,true,true,true,true,true,true,false,false,false,false,false,false] ?_
        refine tk_ 23 (some 68) #[true,true,true,true,true,true,true,true,true,true,true,true,true,true,true,true,true,true,true,true,true,true,true,true,false,false,false,false,false] hHeld ?_
        refine pu_ 24 (some 69) #[true,true,true,true,true,true,true,true,true,true,true,true,true,true,true,true,true,true,true,true,true,true,true,true,true,false,false,false,false] ?_
        refine tk_ 25 (some 70) #[true,true,true,true,true,true,true,true,true,true,true,true,true,true,true,true,true,true,true,true,true,true,true,true,true,true,false,false,false] hHeld ?_
        refine oc_ 26 (some 71) #[true,true,true,true,true,true,true,true,true,true,true,true,true,true,true,true,true,true,true,true,true,true,true,true,true,true,true,false,false] Try.func47 #[.slice A o.length c,.slice A2 l2.length c2,.slice At t.f1.length ct,.int .i64 t.f0] (fun K hK=>?_)
        refine (leads47 A c o A2 c2 l2 At ct t.f1 t.f0 _ (cx_ (Kd.C_below HCo.out HB.out)) (cx_ (Kd.C_below HR2'.out HB.out)) (cx_ HCT.out) hl2 HK.out HW.out).mono ?_
        rw [hlb]
        rintro e w9 ⟨rfl,hb9⟩
        have HBT:=Aside0.mk (below_step (bx_:Below w6.heap.size w6 _) hb9)
        clear hb9
        refine ⟨_,rfl,?_⟩
        refine hk_ hK (fun hHeld=>?_) (⟨(HCE.out _ bx_).1,(HCE.out _ bx_).2,hdn⟩)
        clear hK K
        refine pu_ 27 (some 72) #[true,true,true,true,true,true,true,true,true,true,true,true,true,true,true,true,true,true,true,true,true,true,true,true,true,true,true,true,false] ?_
        refine pu_ 28 (some 73) #[true,true,true,true,true,true,true,true,true,true,true,true,true,true,true,true,true,true,true,true,true,true,true,true,true,true,true,true,true] ?_
        refine done_ (by kernel_rfl) ?_
        have HM9:=Aside0.mk (HM.out.below HBT.out)
        have HB9:=Aside0.mk (below_then HB.out HB.out.size HBT.out)
        have HBX9:=Aside0.mk (blk_below HBX.out HBT.out)
        have q0:w9.cell? ⟨bx,0,none⟩ = some (.int .i64 t.f0):=blk_cell HBX9.out 0
        have HGT:=Aside0.mk (show goodT o l2 (prevT l3 kk) t = true by unfold goodT;rw [HXM.out,HLB.out];rw [HPV.out];rfl)
        go_wp2_with (at_mapUpdate;refine MapV.update HM9.out 43 4 Try.underlying43 rfl _ _ _ rfl rfl (by omega) t.f0 (.bool true) rfl rfl HW.out ?_;intro w10 hM10 hG10)
        go_roundg (l3.length - (kk + 1))
        case measure=>omega
        case rel =>
         refine ⟨kk + 1,by omega,by omega,by go_num,⟨?_⟩,⟨?_⟩,⟨pw_below_grown HB9.out _ HB9.out.size hG10 (fun k hk=>by injection hk with hk;omega)⟩⟩
         ·rw [HPN.out,HAL.out,HGT.out,Bool.true_and]
         ·have h:=hM10
          rw [bF_put,insT_snoc,← take_snoc_of HG.out] at h
          exact h
    ·have hltz:¬ (kk:Int) < (l3.length:Int):=by omega
     have HAT:=Aside0.mk (show allT o l2 none l3 = true by rw [← HAL.out,List.drop_of_length_le (by omega)];rfl)
     replace HM:=Aside0.mk (show MapV wr bh (64 + kk) (bF (insT l2 l3)) by have h:=HM.out;rwa [List.take_of_length_le (by omega)] at h)
     go_wp2_with fail
     go_loopg [17,80] o.length (fun gg s17 s80 wr=>∃ (jj:Nat),jj≤o.length∧o.length - jj≤gg∧s80 = .int .i64 jj∧Aside0 ((o.take jj).all (fun x=>insT l2 l3 x.f1 == insT l2 l3 x.f2) = true)∧Aside0 (MapV wr bh (64 + kk) (bF (insT l2 l3)))∧Aside0 (Below w1.heap.size w1 wr))
     case atStart=>exact ⟨0,Nat.zero_le _,by omega,rfl,⟨by rw [List.take_zero];rfl⟩,HM,HB⟩
     case round =>
      clear HM HB
      obtain ⟨jj,hjj,hg,rfl,HAO,HM,HB⟩:=hrel
      by_cases hlt2:jj < o.length
      ·have hltz:(jj:Int) < (o.length:Int):=by omega
       obtain ⟨ad,e,h0,h1,h2,h3,h4,h5,h6⟩:=at_T48 (Kd.C_below HCo.out HB.out) jj (by omega) hltz
       cases e
       simp only [Int.toNat_natCast] at h0 h1 h2 h3 h4 h5 h6
       have HG:=Aside0.mk (rd48_get o jj hlt2)
       generalize rd_T48 o (jj:Int) = x at h0 h1 h2 h3 h4 h5 h6 HG
       have HX1:=Aside0.mk (HK.out x.f1 (univ_ends (List.mem_append.2 (.inl (List.mem_map.2 ⟨x,List.mem_of_getElem? HG.out,rfl⟩)))))
       have HX2:=Aside0.mk (HK.out x.f2 (univ_ends (List.mem_append.2 (.inr (List.mem_map.2 ⟨x,List.mem_of_getElem? HG.out,rfl⟩)))))
       have HM6:=Aside0.mk (HM.out.below (below_alloc (Below.refl wr.heap.size wr) (.cells #[.int .i64 x.f0,.int .i64 x.f1,.int .i64 x.f2,.int .i64 x.f3,.string x.f4.f0,.string x.f4.f1,.string x.f4.f2] 48)))
       have HB6:=Aside0.mk (below_alloc HB.out (.cells #[.int .i64 x.f0,.int .i64 x.f1,.int .i64 x.f2,.int .i64 x.f3,.string x.f4.f0,.string x.f4.f1,.string x.f4.f2] 48))
       cases hA:insT l2 l3 x.f1 with
       | true =>
        cases hB:insT l2 l3 x.f2 with
        | true =>
         go_wp2_with (first
               | (at_lookup;refine MapV.get_bool HM6.out x.f1 rfl (.tmp 84) _ rfl rfl rfl HX1.out ?_;rw [hA])
               | (at_lookup;refine MapV.get_bool HM6.out x.f2 rfl (.tmp 88) _ rfl rfl rfl HX2.out ?_;rw [hB]))
         have HHA:=Aside0.mk hA
         have HHB:=Aside0.mk hB
         clear hA hB
         go_roundg (o.length - (jj + 1))
         case measure=>omega
         case rel =>
          refine ⟨jj + 1,by omega,by omega,by go_num,⟨?_⟩,HM6,HB6⟩
          rw [take_snoc_of HG.out,List.all_append,HAO.out]
          simp [HHA.out,HHB.out]
        | false =>
         go_wp2_with (first
               | (at_lookup;refine MapV.get_bool HM6.out x.f1 rfl (.tmp 84) _ rfl rfl rfl HX1.out ?_;rw [hA])
               | (at_lookup;refine MapV.get_bool HM6.out x.f2 rfl (.tmp 88) _ rfl rfl rfl HX2.out ?_;rw [hB]))
         have HHA:=Aside0.mk hA
         have HHB:=Aside0.mk hB
         clear hA hB
         go_ret
         refine ⟨?_,below_then HB0.out HB0.out.size HB6.out⟩
         have h:=HF.out
         unfold checkB at h
         have h2:(o.all fun x=>insT l2 l3 x.f1 == insT l2 l3 x.f2) = false:=by
          rw [List.all_eq_false]
          exact ⟨x,List.mem_of_getElem? HG.out,by rw [HHA.out,HHB.out];decide⟩
         rw [h2,Bool.and_false,if_neg (by decide)] at h
         rw [← h]
         rfl
       | false =>
        cases hB:insT l2 l3 x.f2 with
        | true =>
         go_wp2_with (first
               | (at_lookup;refine MapV.get_bool HM6.out x.f1 rfl (.tmp 84) _ rfl rfl rfl HX1.out ?_;rw [hA])
               | (at_lookup;refine MapV.get_bool HM6.out x.f2 rfl (.tmp 88) _ rfl rfl rfl HX2.out ?_;rw [hB]))
         have HHA:=Aside0.mk hA
         have HHB:=Aside0.mk hB
         clear hA hB
         go_ret
         refine ⟨?_,below_then HB0.out HB0.out.size HB6.out⟩
         have h:=HF.out
         unfold checkB at h
         have h2:(o.all fun x=>insT l2 l3 x.f1 == insT l2 l3 x.f2) = false:=by
          rw [List.all_eq_false]
          exact ⟨x,List.mem_of_getElem? HG.out,by rw [HHA.out,HHB.out];decide⟩
         rw [h2,Bool.and_false,if_neg (by decide)] at h
         rw [← h]
         rfl
        | false =>
         go_wp2_with (first
               | (at_lookup;refine MapV.get_bool HM6.out x.f1 rfl (.tmp 84) _ rfl rfl rfl HX1.out ?_;rw [hA])
               | (at_lookup;refine MapV.get_bool HM6.out x.f2 rfl (.tmp 88) _ rfl rfl rfl HX2.out ?_;rw [hB]))
         have HHA:=Aside0.mk hA
         have HHB:=Aside0.mk hB
         clear hA hB
         go_roundg (o.length - (jj + 1))
         case measure=>omega
         case rel =>
          refine ⟨jj + 1,by omega,by omega,by go_num,⟨?_⟩,HM6,HB6⟩
          rw [take_snoc_of HG.out,List.all_append,HAO.out]
          simp [HHA.out,HHB.out]
      ·have hltz:¬ (jj:Int) < (o.length:Int):=by omega
       go_wp2_with fail
       go_ret
       refine ⟨?_,below_then HB0.out HB0.out.size HB.out⟩
       have h:=HF.out
       unfold checkB at h
       have h2:=HAO.out
       rw [List.take_of_length_le (by omega)] at h2
       rw [HAT.out,h2,if_pos (by decide)] at h
       rw [← h]
       rfl
theorem lit_C (W:World) (xs:List Int) (hm:xs.length≤1000000):Kd.C (Kd.int .i64) (W.alloc (.cells (nums .i64 xs).toArray 3)) (some ⟨W.heap.size,0,none⟩) xs.length xs :=
 (RI_C (B:=W.heap.size) (c:=xs.length) (Kd.R_of_own (ok:=fun _=>True) (own_lit W W.heap.size 3 .i64 xs (Nat.le_refl _) (by omega)) (fun _ _=>trivial))).2
def exL:List S48:=match garboardlaw32_example.f with|some p=>p.1|none=>[]
theorem ex_f:garboardlaw32_example.f = some (exL,[1,2,3,4,5]):=by kernel_rfl
def exT:List S29:=[⟨1,[1]⟩,⟨2,[2]⟩,⟨3,[1,3]⟩,⟨4,[1,3,5]⟩]
theorem ex_barrier:connection_Barrier.f 100 exL [1,2,3,4,5] [0] 3 = some ([1,2],0):=by kernel_rfl
theorem ex_traces:connection_Traces.f exL [1,2,3,4,5] [0] = some (exT,0):=by kernel_rfl
theorem ex_check:connection_Check.f exL [1,2,3,4,5] [0] exT = some 0:=by kernel_rfl
theorem ex_parts:connection_Parts.f exL [1,2,3,4] = some ([[0,1,2,3],[4]],0):=by kernel_rfl
theorem ex_eq1:slices_Equal_int_int.f 10 [1,3] [1,3] = some true:=by kernel_rfl
theorem ex_eq2:slices_Equal_int_int.f 10 [1,2] [1,2] = some true:=by kernel_rfl
set_option maxHeartbeats 4000000 in
set_option maxRecDepth 100000 in
theorem awake10 (w:World):Calls Try.prog 10 #[] w fun e w'=>e = .returned (.bool true)∧Below w.heap.size w w':=by
 go_enter Try.func10,Try.ntmps10
 go_wp2_with fail
 refine (garboardlaw32_example.calls _ _ w ex_f).mono ?_
 rintro e w1 ⟨v0,v1,rfl,hr0,hr1,hb⟩
 obtain ⟨A0,c0,e0,hl0,hC0⟩:=Kd.R_reads hr0
 obtain ⟨A1,c1,e1,hl1,hC1⟩:=Kd.R_reads hr1
 subst e0 e1
 have HC0:=Aside0.mk hC0
 have HC1:=Aside0.mk hC1
 have HL0:=Aside0.mk hl0
 have HL1:=Aside0.mk hl1
 have HB:=Aside0.mk hb
 clear hr0 hr1 hb hC0 hC1 hl0 hl1
 have hn0:exL.length = 5:=by kernel_rfl
 have hn1:([1,2,3,4,5]:List Int).length = 5:=rfl
 rw [hn0,hn1]
 go_wp2_with fail
 have hb2:Below w1.heap.size w1 (w1.alloc (.cells #[.int .i64 0] 3)):=below_alloc (Below.refl _ _) _
 have hz2:Kd.C (Kd.int .i64) (w1.alloc (.cells #[.int .i64 0] 3)) (some ⟨w1.heap.size,0,none⟩) 1 [0]:=lit_C w1 [0] (by decide)
 replace HC0:=Aside0.mk (Kd.C_below HC0.out hb2)
 replace HC1:=Aside0.mk (Kd.C_below HC1.out hb2)
 replace HB:=Aside0.mk (below_then HB.out HB.out.size hb2)
 generalize w1.alloc (.cells #[.int .i64 0] 3) = w2 at hb2 hz2 HC0 HC1 HB ⊢
 have HT:=connection_Traces.calls A0 c0 exL A1 c1 [1,2,3,4,5] (some ⟨w1.heap.size,0,none⟩) 1 [0] exT 0 w2 HC0.out HL0.out HC1.out HL1.out hz2 (by decide) ex_traces
 rw [hn0] at HT
 clear hb2 hz2
 refine HT.mono ?_
 clear HT
 rintro e w3 ⟨v3,rfl,hr3,hb3⟩
 replace HC0:=Aside0.mk (Kd.C_below HC0.out hb3)
 replace HC1:=Aside0.mk (Kd.C_below HC1.out hb3)
 replace HB:=Aside0.mk (below_then HB.out HB.out.size hb3)
 obtain ⟨A3,c3,e3,hl3,hC3⟩:=Kd.R_reads hr3
 subst e3
 have HC3:=Aside0.mk hC3
 have HL3:=Aside0.mk hl3
 clear hr3 hb3 hC3 hl3
 rw [show exT.length = 4 from rfl]
 go_wp2_with fail
 have hb4:Below w3.heap.size w3 (w3.alloc (.cells #[.int .i64 0] 3)):=below_alloc (Below.refl _ _) _
 have hz4:Kd.C (Kd.int .i64) (w3.alloc (.cells #[.int .i64 0] 3)) (some ⟨w3.heap.size,0,none⟩) 1 [0]:=lit_C w3 [0] (by decide)
 replace HC0:=Aside0.mk (Kd.C_below HC0.out hb4)
 replace HC1:=Aside0.mk (Kd.C_below HC1.out hb4)
 replace HC3:=Aside0.mk (Kd.C_below HC3.out hb4)
 replace HB:=Aside0.mk (below_then HB.out HB.out.size hb4)
 generalize w3.alloc (.cells #[.int .i64 0] 3) = w4 at hb4 hz4 HC0 HC1 HC3 HB ⊢
 have HT:=connection_Barrier.calls 100 A0 c0 exL A1 c1 [1,2,3,4,5] (some ⟨w3.heap.size,0,none⟩) 1 [0] 3 [1,2] 0 w4 HC0.out HL0.out HC1.out HL1.out hz4 (by decide) ex_barrier
 rw [hn0] at HT
 clear hb4 hz4
 refine HT.mono ?_
 clear HT
 rintro e w5 ⟨v5,rfl,hr5,hb5⟩
 replace HC0:=Aside0.mk (Kd.C_below HC0.out hb5)
 replace HC1:=Aside0.mk (Kd.C_below HC1.out hb5)
 replace HC3:=Aside0.mk (Kd.C_below HC3.out hb5)
 replace HB:=Aside0.mk (below_then HB.out HB.out.size hb5)
 obtain ⟨A5,c5,e5,hl5,hC5⟩:=Kd.R_reads hr5
 subst e5
 have HC5:=Aside0.mk hC5
 have HL5:=Aside0.mk hl5
 clear hr5 hb5 hC5 hl5
 rw [show ([1,2]:List Int).length = 2 from rfl]
 have hl1:5≤c1:=HL1.out
 go_wp2_with fail
 have hz6:Kd.C (Kd.int .i64) w5 A1 4 [1,2,3,4]:=Kd.C_take HC1.out (show 4≤5 by decide)
 have HT:=connection_Parts.calls A0 c0 exL A1 c1 [1,2,3,4] [[0,1,2,3],[4]] 0 w5 HC0.out HL0.out hz6 (by show 4≤c1;omega) ex_parts
 rw [hn0] at HT
 clear hz6
 refine HT.mono ?_
 clear HT
 rintro e w7 ⟨v7,rfl,hr7,hb7⟩
 replace HC0:=Aside0.mk (Kd.C_below HC0.out hb7)
 replace HC1:=Aside0.mk (Kd.C_below HC1.out hb7)
 replace HC3:=Aside0.mk (Kd.C_below HC3.out hb7)
 replace HC5:=Aside0.mk (Kd.C_below HC5.out hb7)
 replace HB:=Aside0.mk (below_then HB.out HB.out.size hb7)
 obtain ⟨A7,c7,e7⟩:=Kd.R_slice hr7
 subst e7
 clear hr7 hb7
 rw [show ([[0,1,2,3],[4]]:List (List Int)).length = 2 from rfl]
 obtain ⟨ad3,A8,c8,e,g0,g1,hl8,hC8⟩:=at_T29 HC3.out 2 (by decide) (by decide)
 cases e
 replace g0:w7.cell? (ad3.add ((2:Int).toNat * 2)) = some (.int .i64 3):=g0
 simp only [Int.reduceToNat,Nat.reduceMul] at g0 g1
 replace g1:w7.cell? ⟨(ad3.add 4).block,(ad3.add 4).off + 1,none⟩ = some (.slice A8 2 c8):=g1
 have HC8:=Aside0.mk (show Kd.C (Kd.int .i64) w7 A8 2 [1,3] from hC8)
 have HL8:=Aside0.mk (show 2≤c8 from hl8)
 rw [show ad3.add 4 = (⟨ad3.block,ad3.off + 4,none⟩:Addr) from rfl] at g0 g1
 replace g1:w7.cell? ⟨ad3.block,ad3.off + 5,none⟩ = some (.slice A8 2 c8):=g1
 clear hl8 hC8
 go_wp2_with fail
 have hbl:Below w7.heap.size w7 (w7.alloc (.cells #[.int .i64 1,.int .i64 3] 3)):=below_alloc (Below.refl _ _) _
 have hzl:Kd.C (Kd.int .i64) (w7.alloc (.cells #[.int .i64 1,.int .i64 3] 3)) (some ⟨w7.heap.size,0,none⟩) 2 [1,3]:=lit_C w7 [1,3] (by decide)
 replace HC0:=Aside0.mk (Kd.C_below HC0.out hbl)
 replace HC1:=Aside0.mk (Kd.C_below HC1.out hbl)
 replace HC3:=Aside0.mk (Kd.C_below HC3.out hbl)
 replace HC5:=Aside0.mk (Kd.C_below HC5.out hbl)
 replace HC8:=Aside0.mk (Kd.C_below HC8.out hbl)
 replace HB:=Aside0.mk (below_then HB.out HB.out.size hbl)
 generalize w7.alloc (.cells #[.int .i64 1,.int .i64 3] 3) = w8 at hbl hzl HC0 HC1 HC3 HC5 HC8 HB ⊢
 have HT:=slices_Equal_int_int.calls 10 A8 c8 [1,3] (some ⟨w7.heap.size,0,none⟩) 2 [1,3] true w8 HC8.out HL8.out hzl (by decide) ex_eq1
 clear g0 g1 hbl hzl HC8 HL8
 refine HT.mono ?_
 clear HT
 rintro e w9 ⟨rfl,hd⟩
 obtain ⟨nd,rfl⟩:=hd.out
 have hbd:Below w8.heap.size w8 (w8.drewN nd):=pw_below_drewN (Below.refl _ _) nd
 replace HC0:=Aside0.mk (Kd.C_below HC0.out hbd)
 replace HC1:=Aside0.mk (Kd.C_below HC1.out hbd)
 replace HC3:=Aside0.mk (Kd.C_below HC3.out hbd)
 replace HC5:=Aside0.mk (Kd.C_below HC5.out hbd)
 replace HB:=Aside0.mk (below_then HB.out HB.out.size hbd)
 generalize w8.drewN nd = w9 at hbd HC0 HC1 HC3 HC5 HB ⊢
 clear hd hbd
 go_wp2_with fail
 have hbl:Below w9.heap.size w9 (w9.alloc (.cells #[.int .i64 1,.int .i64 2] 3)):=below_alloc (Below.refl _ _) _
 have hzl:Kd.C (Kd.int .i64) (w9.alloc (.cells #[.int .i64 1,.int .i64 2] 3)) (some ⟨w9.heap.size,0,none⟩) 2 [1,2]:=lit_C w9 [1,2] (by decide)
 replace HC0:=Aside0.mk (Kd.C_below HC0.out hbl)
 replace HC1:=Aside0.mk (Kd.C_below HC1.out hbl)
 replace HC3:=Aside0.mk (Kd.C_below HC3.out hbl)
 replace HC5:=Aside0.mk (Kd.C_below HC5.out hbl)
 replace HB:=Aside0.mk (below_then HB.out HB.out.size hbl)
 generalize w9.alloc (.cells #[.int .i64 1,.int .i64 2] 3) = w10 at hbl hzl HC0 HC1 HC3 HC5 HB ⊢
 have HT:=slices_Equal_int_int.calls 10 A5 c5 [1,2] (some ⟨w9.heap.size,0,none⟩) 2 [1,2] true w10 HC5.out HL5.out hzl (by decide) ex_eq2
 clear hbl hzl HL5
 refine HT.mono ?_
 clear HT
 rintro e w11 ⟨rfl,hd⟩
 obtain ⟨nd,rfl⟩:=hd.out
 have hbd:Below w10.heap.size w10 (w10.drewN nd):=pw_below_drewN (Below.refl _ _) nd
 replace HC0:=Aside0.mk (Kd.C_below HC0.out hbd)
 replace HC1:=Aside0.mk (Kd.C_below HC1.out hbd)
 replace HC3:=Aside0.mk (Kd.C_below HC3.out hbd)
 replace HB:=Aside0.mk (below_then HB.out HB.out.size hbd)
 generalize w10.drewN nd = w11 at hbd HC0 HC1 HC3 HB ⊢
 clear hd hbd
 go_wp2_with fail
 have hbl:Below w11.heap.size w11 (w11.alloc (.cells #[.int .i64 0] 3)):=below_alloc (Below.refl _ _) _
 have hzl:Kd.C (Kd.int .i64) (w11.alloc (.cells #[.int .i64 0] 3)) (some ⟨w11.heap.size,0,none⟩) 1 [0]:=lit_C w11 [0] (by decide)
 replace HC0:=Aside0.mk (Kd.C_below HC0.out hbl)
 replace HC1:=Aside0.mk (Kd.C_below HC1.out hbl)
 replace HC3:=Aside0.mk (Kd.C_below HC3.out hbl)
 replace HB:=Aside0.mk (below_then HB.out HB.out.size hbl)
 generalize w11.alloc (.cells #[.int .i64 0] 3) = w12 at hbl hzl HC0 HC1 HC3 HB ⊢
 have HT:=connection_Check.calls A0 c0 exL A1 c1 [1,2,3,4,5] (some ⟨w11.heap.size,0,none⟩) 1 [0] (some ad3) c3 exT 0 w12 HC0.out HL0.out HC1.out HL1.out hzl (by decide) HC3.out HL3.out ex_check
 rw [hn0] at HT
 clear hbl hzl
 refine HT.mono ?_
 clear HT
 rintro e w13 ⟨rfl,hb13⟩
 replace HB:=Aside0.mk (below_then HB.out HB.out.size hb13)
 clear hb13
 go_wp2_with fail
 go_ret
 exact ⟨rfl,HB.out⟩
def PredT (g:Nat) (lb:Array Value) (p:S29→Bool) (w:World):Prop :=
 ∀ (W:World) (x:S29) (A:Option Addr) (c:Nat),x.f1.length≤c→Kd.C (Kd.int .i64) W A x.f1.length x.f1→Below w.heap.size w W →
  Calls Try.prog g (#[.agg #[.int .i64 x.f0,.slice A x.f1.length c]] ++ lb) W fun e w'=>e = .returned (.bool (p x))∧Below W.heap.size W w'
theorem rd29_get' (l:List S29) (i:Nat) (h:i < l.length):l[i]? = some (rd_T29 l i):=by
 unfold rd_T29
 rw [List.getD_eq_getElem?_getD,Int.toNat_natCast,List.getElem?_eq_getElem h]
 rfl
theorem pred13 (w:World):PredT 13 #[] (fun t=>decide (40 < t.f1.length)) w:=fun W x A c hl hC hb=>by
 clear hb hl hC
 show Calls Try.prog 13 #[.agg #[.int .i64 x.f0,.slice A x.f1.length c]] W _
 go_enter Try.func13,Try.ntmps13
 go_wp2_with fail
 go_ret
 exact ⟨by simp;omega,below_alloc (Below.refl _ _) _⟩
set_option maxHeartbeats 1000000 in
theorem idx31 (p:S29→Bool) (g:Nat) (lb:Array Value) (eg:∀ args w,(callFunc g args).run Try.prog w = .ok (.enter g args) w) (A:Option Addr) (c:Nat) (xs:List S29) (w:World)
  (hr:Kd.C k29 w A xs.length xs) (hp:PredT g lb p w) :
  Calls Try.prog 31 #[.slice A xs.length c,.func (.func g) #[] lb] w fun e w'=>e = .returned (.int .i64 (fidx p xs 0))∧Below w.heap.size w w':=by
 have hmax:=hr.2.1
 have HR:=Aside0.mk hr
 have HP:=Aside0.mk hp
 clear hr hp
 go_enter Try.func31,Try.ntmps31
 go_wp2
 go_loopg [5,8] xs.length (fun gg _ s8 wr=>∃ kk:Nat,kk≤xs.length∧xs.length - kk≤gg∧s8 = .int .i64 kk∧Aside0 (Below w.heap.size w wr)∧Aside0 (∀ j z,j < kk→xs[j]? = some z→p z = false))
 case atStart=>exact ⟨0,Nat.zero_le _,by omega,rfl,⟨Below.refl _ w⟩,⟨fun j z hj=>absurd hj (Nat.not_lt_zero _)⟩⟩
 case round =>
  obtain ⟨kk,hkk,hg,rfl,BW,AF⟩:=hrel
  by_cases hlt:kk < xs.length
  ·have hltz:(kk:Int) < (xs.length:Int):=by omega
   obtain ⟨ad,A1,c1,e,h0,h1,h2,h3⟩:=at_T29 (Kd.C_below HR.out BW.out) kk (by omega) hltz
   cases e
   simp only [Int.toNat_natCast] at h0 h1
   have hcall:=HP.out wr (rd_T29 xs kk) A1 c1 h2 h3 BW.out
   clear h2 h3
   have hget:=rd29_get' xs kk hlt
   have HG:=Aside0.mk hget
   clear hget
   generalize rd_T29 xs (kk:Int) = y at h0 h1 hcall HG
   cases hq:p y with
   | true =>
    have HQ:=Aside0.mk hq
    rw [hq] at hcall
    clear hq
    go_wp2_with fail
    refine hcall.mono ?_
    clear hcall
    rintro e w' ⟨rfl,hb'⟩
    have HB:=Aside0.mk (below_then BW.out BW.out.size hb')
    clear hb'
    go_wp2_with fail
    go_ret
    refine ⟨?_,HB.out⟩
    rw [fidx_hit p xs 0 kk _ HG.out HQ.out AF.out,Nat.zero_add]
    rfl
   | false =>
    have HQ:=Aside0.mk hq
    rw [hq] at hcall
    clear hq
    go_wp2_with fail
    refine hcall.mono ?_
    clear hcall
    rintro e w' ⟨rfl,hb'⟩
    have HB:=Aside0.mk (below_then BW.out BW.out.size hb')
    clear hb'
    go_wp2_with fail
    go_roundg (xs.length - (kk + 1))
    case measure=>omega
    case rel =>
     refine ⟨kk + 1,by omega,by omega,by go_num,HB,⟨fun j z hj hz=>?_⟩⟩
     by_cases e:j = kk
     ·subst e
      rw [HG.out] at hz
      injection hz with hz
      rw [← hz]
      exact HQ.out
     ·exact AF.out j z (by omega) hz
  ·have hltz:¬ (kk:Int) < (xs.length:Int):=by omega
   go_wp2
   go_ret
   refine ⟨?_,BW.out⟩
   have hf:fidx p xs 0 = -1:=fidx_miss p xs 0 (fun x hx=>by
    obtain ⟨j,hj⟩:=List.getElem?_of_mem hx
    have hjl:=(List.getElem?_eq_some_iff.1 hj).1
    exact AF.out j x (by omega) hj)
   rw [hf]
   rfl
set_option maxHeartbeats 1000000 in
theorem contains12 (p:S29→Bool) (g:Nat) (lb:Array Value) (eg:∀ args w,(callFunc g args).run Try.prog w = .ok (.enter g args) w) (A:Option Addr) (c:Nat) (xs:List S29) (w:World)
  (hr:Kd.C k29 w A xs.length xs) (hp:PredT g lb p w) :
  Calls Try.prog 12 #[.slice A xs.length c,.func (.func g) #[] lb] w fun e w'=>e = .returned (.bool (xs.any p))∧Below w.heap.size w w':=by
 have hcon:=idx31 p g lb eg A c xs w hr hp
 rw [fidx_any p xs 0]
 generalize fidx p xs 0 = q at hcon ⊢
 clear eg hr hp
 go_enter Try.func12,Try.ntmps12
 go_wp2_with fail
 refine hcon.mono ?_
 clear hcon
 rintro e w' ⟨rfl,hb'⟩
 go_wp2_with fail
 go_ret
 exact ⟨rfl,hb'⟩
def garboardref32_Rises.l0:Nat→List Int→Int→Int→Int→Option (Bool)
 | 0,_,_,_,_=>none
 | k + 1,x0,x1,x2,x7=>if x7 < (x0.length:Int) then (if 0≤x7 then (if (rd x0 x7) < x1 then (some false) else (if (rd x0 x7) > x2 then (some false) else (if x7 > 0 then (if 0≤(wrap64 (x7 - 1)) then (if (wrap64 (x7 - 1)) < (x0.length:Int) then (if (rd x0 x7)≤(rd x0 (wrap64 (x7 - 1))) then (some false) else (garboardref32_Rises.l0 k x0 x1 x2 (wrap64 (x7 + 1)))) else (none)) else (none)) else (garboardref32_Rises.l0 k x0 x1 x2 (wrap64 (x7 + 1)))))) else (none)) else (some true)
def garboardref32_Rises.f (k:Nat) (l0:List Int) (a1:Int) (a2:Int):Option (Bool):=garboardref32_Rises.l0 k l0 a1 a2 0
set_option maxHeartbeats 8000000 in
set_option maxRecDepth 100000 in
theorem garboardref32_Rises.calls (k:Nat) (A0:Option Addr) (c0:Nat) (l0:List Int) (a1:Int) (a2:Int) (r:Bool) (w:World) (hr0:Kd.C (Kd.int .i64) w A0 l0.length l0) (hc0:l0.length≤c0) (h:garboardref32_Rises.f k l0 a1 a2 = some r) :
  Calls Try.prog 82 #[.slice A0 l0.length c0,.int .i64 a1,.int .i64 a2] w fun e w'=>e = .returned (.bool r)∧Drawn0 w w':=by
 have HR0:=Aside0.mk hr0
 have HC0:=Aside0.mk hc0
 clear hr0 hc0
 have H:(garboardref32_Rises.l0 k l0 a1 a2 0) = some r:=h
 clear h
 have H':=Aside0.mk H
 clear H
 go_enter Try.func82,Try.ntmps82
 go_wp2
 repeat (go_quiet (fail);try go_wp2)
 go_loopg [7] k (fun kq v7 w'=>∃ (x7_1:Int),v7 = .int .i64 x7_1∧Aside0 (garboardref32_Rises.l0 kq l0 a1 a2 x7_1 = some r)∧Aside0 (kq≤k)∧Drawn0 w w')
 case atStart=>exact ⟨(0),(by first|rfl|(simp;done)|(simp [*];done)),H',⟨Nat.le_refl _⟩,by repeat (first|exact Drawn0.refl _|apply Drawn0.step)⟩
 case round =>
  clear H'
  try clear p2
  obtain ⟨x7_1,rfl,HA,HK1,⟨m1,rfl⟩⟩:=hrel
  cases gk with
  | zero=>exact absurd HA.out (by simp [garboardref32_Rises.l0])
  | succ k1 =>
   have H:=HA.out
   clear HA
   simp only [garboardref32_Rises.l0] at H
   by_cases c4:x7_1 < (l0.length:Int)
   ·rw [if_pos c4] at H
    have c4b0:decide (x7_1 < (l0.length:Int)) = true:=decide_eq_true c4
    clear c4
    by_cases c5:0≤x7_1
    ·rw [if_pos c5] at H
     have c5b0:decide (0≤x7_1) = true:=decide_eq_true c5
     clear c5
     by_cases c6:(rd l0 x7_1) < a1
     ·rw [if_pos c6] at H
      have c6b0:decide ((rd l0 x7_1) < a1) = true:=decide_eq_true c6
      clear c6
      obtain rfl:=Option.some.inj H
      have p252:0≤(x7_1:Int):=of_decide_eq_true (by first|(with_reducible assumption)|assumption)
      have q252:x7_1 < (l0.length:Int):=of_decide_eq_true (by first|(with_reducible assumption)|assumption)
      obtain ⟨ad252,e252,hx252_0⟩:=Kd.at_int HR0.out x7_1 p252 q252
      cases e252
      replace p252:=eq_true p252
      replace q252:=eq_true q252
      go_wp2
      repeat (go_quiet (fail);try go_wp2)
      go_ret
      exact ⟨by first|rfl|(simp;done)|(simp [*];done),by repeat (first|exact Drawn0.refl _|apply Drawn0.step)⟩
     ·rw [if_neg c6] at H
      have c6b0:decide ((rd l0 x7_1) < a1) = false:=decide_eq_false c6
      clear c6
      by_cases c7:(rd l0 x7_1) > a2
      ·rw [if_pos c7] at H
       have c7b0:decide (a2 < (rd l0 x7_1)) = true:=decide_eq_true c7
       clear c7
       obtain rfl:=Option.some.inj H
       have p252:0≤(x7_1:Int):=of_decide_eq_true (by first|(with_reducible assumption)|assumption)
       have q252:x7_1 < (l0.length:Int):=of_decide_eq_true (by first|(with_reducible assumption)|assumption)
       obtain ⟨ad252,e252,hx252_0⟩:=Kd.at_int HR0.out x7_1 p252 q252
       cases e252
       replace p252:=eq_true p252
       replace q252:=eq_true q252
       have p253:0≤(x7_1:Int):=of_decide_eq_true (by first|(with_reducible assumption)|assumption)
       have q253:x7_1 < (l0.length:Int):=of_decide_eq_true (by first|(with_reducible assumption)|assumption)
       obtain ⟨ad253,e253,hx253_0⟩:=Kd.at_int HR0.out x7_1 p253 q253
       obtain rfl:ad252 = ad253:=(by injection e253)
       replace p253:=eq_true p253
       replace q253:=eq_true q253
       go_wp2
       repeat (go_quiet (fail);try go_wp2)
       go_ret
       exact ⟨by first|rfl|(simp;done)|(simp [*];done),by repeat (first|exact Drawn0.refl _|apply Drawn0.step)⟩
      ·rw [if_neg c7] at H
       have c7b0:decide (a2 < (rd l0 x7_1)) = false:=decide_eq_false c7
       clear c7
       by_cases c8:x7_1 > 0
       ·rw [if_pos c8] at H
        have c8b0:decide (0 < x7_1) = true:=decide_eq_true c8
        clear c8
        obtain ⟨ji9,hji9⟩:∃ j_:Int,(wrap64 (x7_1 - 1)) = j_:=⟨_,rfl⟩
        replace H:(if 0≤(ji9) then (if (ji9) < (l0.length:Int) then (if (rd l0 x7_1)≤(rd l0 (ji9)) then (some false) else (garboardref32_Rises.l0 k1 l0 a1 a2 (wrap64 (x7_1 + 1)))) else (none)) else (none)) = some r:=by first|(rw [hji9] at H;exact H)|(simp only [hji9] at H ⊢;exact H)
        have hji9w:(IntKind.i64.wrap (x7_1 - 1)) = ji9:=(i64_w _).trans hji9
        by_cases c10:0≤(ji9)
        ·rw [if_pos c10] at H
         have c10b0:decide (0≤(ji9)) = true:=decide_eq_true c10
         clear c10
         by_cases c11:(ji9) < (l0.length:Int)
         ·rw [if_pos c11] at H
          have c11b0:decide ((ji9) < (l0.length:Int)) = true:=decide_eq_true c11
          clear c11
          by_cases c12:(rd l0 x7_1)≤(rd l0 (ji9))
          ·rw [if_pos c12] at H
           have c12b0:decide ((rd l0 x7_1)≤(rd l0 (ji9))) = true:=decide_eq_true c12
           clear c12
           obtain rfl:=Option.some.inj H
           have p252:0≤(x7_1:Int):=of_decide_eq_true (by first|(with_reducible assumption)|assumption)
           have q252:x7_1 < (l0.length:Int):=of_decide_eq_true (by first|(with_reducible assumption)|assumption)
           obtain ⟨ad252,e252,hx252_0⟩:=Kd.at_int HR0.out x7_1 p252 q252
           cases e252
           replace p252:=eq_true p252
           replace q252:=eq_true q252
           have p253:0≤(x7_1:Int):=of_decide_eq_true (by first|(with_reducible assumption)|assumption)
           have q253:x7_1 < (l0.length:Int):=of_decide_eq_true (by first|(with_reducible assumption)|assumption)
           obtain ⟨ad253,e253,hx253_0⟩:=Kd.at_int HR0.out x7_1 p253 q253
           obtain rfl:ad252 = ad253:=(by injection e253)
           replace p253:=eq_true p253
           replace q253:=eq_true q253
           have p254:0≤(x7_1:Int):=of_decide_eq_true (by first|(with_reducible assumption)|assumption)
           have q254:x7_1 < (l0.length:Int):=of_decide_eq_true (by first|(with_reducible assumption)|assumption)
           obtain ⟨ad254,e254,hx254_0⟩:=Kd.at_int HR0.out x7_1 p254 q254
           obtain rfl:ad252 = ad254:=(by injection e254)
           replace p254:=eq_true p254
           replace q254:=eq_true q254
           have p255:0≤((ji9):Int):=of_decide_eq_true (by first|(with_reducible assumption)|assumption)
           have q255:(ji9) < (l0.length:Int):=of_decide_eq_true (by first|(with_reducible assumption)|assumption)
           obtain ⟨ad255,e255,hx255_0⟩:=Kd.at_int HR0.out (ji9) p255 q255
           obtain rfl:ad252 = ad255:=(by injection e255)
           replace p255:=eq_true p255
           replace q255:=eq_true q255
           go_wp2
           repeat (go_quiet (fail);try go_wp2)
           go_ret
           exact ⟨by first|rfl|(simp;done)|(simp only [← hji9]<;>(first|rfl|simp))|(simp [*];done),by repeat (first|exact Drawn0.refl _|apply Drawn0.step)⟩
          ·rw [if_neg c12] at H
           have c12b0:decide ((rd l0 x7_1)≤(rd l0 (ji9))) = false:=decide_eq_false c12
           clear c12
           have H':=Aside0.mk H
           clear H
           have p252:0≤(x7_1:Int):=of_decide_eq_true (by first|(with_reducible assumption)|assumption)
           have q252:x7_1 < (l0.length:Int):=of_decide_eq_true (by first|(with_reducible assumption)|assumption)
           obtain ⟨ad252,e252,hx252_0⟩:=Kd.at_int HR0.out x7_1 p252 q252
           cases e252
           replace p252:=eq_true p252
           replace q252:=eq_true q252
           have p253:0≤(x7_1:Int):=of_decide_eq_true (by first|(with_reducible assumption)|assumption)
           have q253:x7_1 < (l0.length:Int):=of_decide_eq_true (by first|(with_reducible assumption)|assumption)
           obtain ⟨ad253,e253,hx253_0⟩:=Kd.at_int HR0.out x7_1 p253 q253
           obtain rfl:ad252 = ad253:=(by injection e253)
           replace p253:=eq_true p253
           replace q253:=eq_true q253
           have p254:0≤(x7_1:Int):=of_decide_eq_true (by first|(with_reducible assumption)|assumption)
           have q254:x7_1 < (l0.length:Int):=of_decide_eq_true (by first|(with_reducible assumption)|assumption)
           obtain ⟨ad254,e254,hx254_0⟩:=Kd.at_int HR0.out x7_1 p254 q254
           obtain rfl:ad252 = ad254:=(by injection e254)
           replace p254:=eq_true p254
           replace q254:=eq_true q254
           have p255:0≤((ji9):Int):=of_decide_eq_true (by first|(with_reducible assumption)|assumption)
           have q255:(ji9) < (l0.length:Int):=of_decide_eq_true (by first|(with_reducible assumption)|assumption)
           obtain ⟨ad255,e255,hx255_0⟩:=Kd.at_int HR0.out (ji9) p255 q255
           obtain rfl:ad252 = ad255:=(by injection e255)
           replace p255:=eq_true p255
           replace q255:=eq_true q255
           go_wp2
           repeat (go_quiet (fail);try go_wp2)
           go_roundg k1
           case measure=>have:=HK1.out;omega
           case rel=>exact ⟨(wrap64 (x7_1 + 1)),(by first|rfl|(simp;done)|(simp [*];done)),H',⟨by have:=HK1.out;omega⟩,by repeat (first|exact Drawn0.refl _|apply Drawn0.step)⟩
         ·rw [if_neg c11] at H
          exact absurd H (by simp)
        ·rw [if_neg c10] at H
         exact absurd H (by simp)
       ·rw [if_neg c8] at H
        have c8b0:decide (0 < x7_1) = false:=decide_eq_false c8
        clear c8
        have H':=Aside0.mk H
        clear H
        have p252:0≤(x7_1:Int):=of_decide_eq_true (by first|(with_reducible assumption)|assumption)
        have q252:x7_1 < (l0.length:Int):=of_decide_eq_true (by first|(with_reducible assumption)|assumption)
        obtain ⟨ad252,e252,hx252_0⟩:=Kd.at_int HR0.out x7_1 p252 q252
        cases e252
        replace p252:=eq_true p252
        replace q252:=eq_true q252
        have p253:0≤(x7_1:Int):=of_decide_eq_true (by first|(with_reducible assumption)|assumption)
        have q253:x7_1 < (l0.length:Int):=of_decide_eq_true (by first|(with_reducible assumption)|assumption)
        obtain ⟨ad253,e253,hx253_0⟩:=Kd.at_int HR0.out x7_1 p253 q253
        obtain rfl:ad252 = ad253:=(by injection e253)
        replace p253:=eq_true p253
        replace q253:=eq_true q253
        go_wp2
        repeat (go_quiet (fail);try go_wp2)
        go_roundg k1
        case measure=>have:=HK1.out;omega
        case rel=>exact ⟨(wrap64 (x7_1 + 1)),(by first|rfl|(simp;done)|(simp [*];done)),H',⟨by have:=HK1.out;omega⟩,by repeat (first|exact Drawn0.refl _|apply Drawn0.step)⟩
    ·rw [if_neg c5] at H
     exact absurd H (by simp)
   ·rw [if_neg c4] at H
    have c4b0:decide (x7_1 < (l0.length:Int)) = false:=decide_eq_false c4
    clear c4
    obtain rfl:=Option.some.inj H
    go_wp2
    repeat (go_quiet (fail);try go_wp2)
    go_ret
    exact ⟨by first|rfl|(simp;done)|(simp [*];done),by repeat (first|exact Drawn0.refl _|apply Drawn0.step)⟩
def garboardref32_find.l0:Nat→List (S48)→Int→Int→Option (Int)
 | 0,_,_,_=>none
 | k + 1,x0,x1,x5=>if x5 < (x0.length:Int) then (if 0≤x5 then (if ((rd_T48 x0 x5).f0) = x1 then (some x5) else (garboardref32_find.l0 k x0 x1 (wrap64 (x5 + 1)))) else (none)) else (some (-1))
def garboardref32_find.f (k:Nat) (l0:List (S48)) (a1:Int):Option (Int):=garboardref32_find.l0 k l0 a1 0
set_option maxHeartbeats 8000000 in
set_option maxRecDepth 100000 in
theorem garboardref32_find.calls (k:Nat) (A0:Option Addr) (c0:Nat) (l0:List (S48)) (a1:Int) (r:Int) (w:World) (hr0:Kd.C k48 w A0 l0.length l0) (hc0:l0.length≤c0) (h:garboardref32_find.f k l0 a1 = some r) :
  Calls Try.prog 83 #[.slice A0 l0.length c0,.int .i64 a1] w fun e w'=>e = .returned (.int .i64 r)∧Drawn0 w w':=by
 have HR0:=Aside0.mk hr0
 have HC0:=Aside0.mk hc0
 clear hr0 hc0
 have H:(garboardref32_find.l0 k l0 a1 0) = some r:=h
 clear h
 have H':=Aside0.mk H
 clear H
 go_enter Try.func83,Try.ntmps83
 go_wp2
 go_loopg [5] k (fun kq v5 w'=>∃ (x5_1:Int),v5 = .int .i64 x5_1∧Aside0 (garboardref32_find.l0 kq l0 a1 x5_1 = some r)∧Aside0 (kq≤k)∧Drawn0 w w')
 case atStart=>exact ⟨(0),(by first|rfl|(simp;done)|(simp [*];done)),H',⟨Nat.le_refl _⟩,by repeat (first|exact Drawn0.refl _|apply Drawn0.step)⟩
 case round =>
  clear H'
  try clear p2
  obtain ⟨x5_1,rfl,HA,HK1,⟨m1,rfl⟩⟩:=hrel
  cases gk with
  | zero=>exact absurd HA.out (by simp [garboardref32_find.l0])
  | succ k1 =>
   have H:=HA.out
   clear HA
   simp only [garboardref32_find.l0] at H
   by_cases c3:x5_1 < (l0.length:Int)
   ·rw [if_pos c3] at H
    have c3b0:decide (x5_1 < (l0.length:Int)) = true:=decide_eq_true c3
    clear c3
    by_cases c4:0≤x5_1
    ·rw [if_pos c4] at H
     have c4b0:decide (0≤x5_1) = true:=decide_eq_true c4
     clear c4
     by_cases c5:((rd_T48 l0 x5_1).f0) = a1
     ·rw [if_pos c5] at H
      have c5b0:(((rd_T48 l0 x5_1).f0) == a1) = true:=beq_iff_eq.mpr c5
      have c5b1:(((rd_T48 l0 x5_1).f0) != a1) = false:=bne_eq_false_iff_eq.mpr c5
      clear c5
      obtain rfl:=Option.some.inj H
      have p256:0≤(x5_1:Int):=of_decide_eq_true (by first|(with_reducible assumption)|assumption)
      have q256:x5_1 < (l0.length:Int):=of_decide_eq_true (by first|(with_reducible assumption)|assumption)
      obtain ⟨ad256,e256,hx256_0,hx256_1,hx256_2,hx256_3,hx256_4,hx256_5,hx256_6⟩:=at_T48 HR0.out x5_1 p256 q256
      cases e256
      replace p256:=eq_true p256
      replace q256:=eq_true q256
      go_wp2
      go_ret
      exact ⟨by first|rfl|(simp;done)|(simp [*];done),by repeat (first|exact Drawn0.refl _|apply Drawn0.step)⟩
     ·rw [if_neg c5] at H
      have c5b0:(((rd_T48 l0 x5_1).f0) == a1) = false:=beq_eq_false_iff_ne.mpr c5
      have c5b1:(((rd_T48 l0 x5_1).f0) != a1) = true:=bne_iff_ne.mpr c5
      have H':=Aside0.mk H
      clear H
      have p256:0≤(x5_1:Int):=of_decide_eq_true (by first|(with_reducible assumption)|assumption)
      have q256:x5_1 < (l0.length:Int):=of_decide_eq_true (by first|(with_reducible assumption)|assumption)
      obtain ⟨ad256,e256,hx256_0,hx256_1,hx256_2,hx256_3,hx256_4,hx256_5,hx256_6⟩:=at_T48 HR0.out x5_1 p256 q256
      cases e256
      replace p256:=eq_true p256
      replace q256:=eq_true q256
      go_wp2
      go_roundg k1
      case measure=>have:=HK1.out;omega
      case rel=>exact ⟨(wrap64 (x5_1 + 1)),(by first|rfl|(simp;done)|(simp [*];done)),H',⟨by have:=HK1.out;omega⟩,by repeat (first|exact Drawn0.refl _|apply Drawn0.step)⟩
    ·rw [if_neg c4] at H
     exact absurd H (by simp)
   ·rw [if_neg c3] at H
    have c3b0:decide (x5_1 < (l0.length:Int)) = false:=decide_eq_false c3
    clear c3
    obtain rfl:=Option.some.inj H
    go_wp2
    go_ret
    exact ⟨by first|rfl|(simp;done)|(simp [*];done),by repeat (first|exact Drawn0.refl _|apply Drawn0.step)⟩
set_option maxHeartbeats 4000000 in
set_option maxRecDepth 100000 in
theorem right81 (A:Option Addr) (c:Nat) (xs:List S48) (w:World) (hr:Kd.C k48 w A xs.length xs) :
  Calls Try.prog 81 #[.slice A xs.length c] w fun e w'=>e = .returned (.bool (rightB xs))∧Below w.heap.size w w':=by
 have hmax:=hr.2.1
 have HR:=Aside0.mk hr
 clear hr
 by_cases h64:64 < xs.length
 ·have h64z:¬ (xs.length:Int)≤64:=by omega
  have h64y:(64:Int) < (xs.length:Int):=by omega
  go_enter Try.func81,Try.ntmps81
  go_wp2
  go_ret
  refine ⟨?_,Below.refl _ _⟩
  rw [show rightB xs = false from by unfold rightB;rw [decide_eq_false (by omega),Bool.and_false]]
  first|rfl|simp
 have h64z:(xs.length:Int)≤64:=by omega
 have h64y:¬ (64:Int) < (xs.length:Int):=by omega
 go_enter Try.func81,Try.ntmps81
 go_wp2
 go_loopg [3,4] xs.length (fun gg s3 s4 wr=>∃ kk:Nat,kk≤xs.length∧xs.length - kk≤gg∧s3 = .int .i64 kk∧Aside0 (Below w.heap.size w wr)∧Aside0 (preB (xs.take kk) = true))
 case atStart=>exact ⟨0,Nat.zero_le _,by omega,rfl,⟨Below.refl _ w⟩,⟨by rw [List.take_zero];decide⟩⟩
 case round =>
  obtain ⟨kk,hkk,hg,rfl,HB,HP⟩:=hrel
  by_cases hlt:kk < xs.length
  ·have hltz:(kk:Int) < (xs.length:Int):=by omega
   have hmk:(kk:Int) < 9223372036854775807:=by omega
   obtain ⟨ad,e,h0,h1,h2,h3,h4,h5,h6⟩:=at_T48 (Kd.C_below HR.out HB.out) kk (by omega) hltz
   cases e
   simp only [Int.toNat_natCast] at h0 h1 h2 h3 h4 h5 h6
   have HG:=Aside0.mk (rd48_get xs kk hlt)
   generalize rd_T48 xs (kk:Int) = x at h0 h1 h2 h3 h4 h5 h6 HG
   go_wp2_with fail
   generalize hw6:wr.alloc (.cells #[.int .i64 x.f0,.int .i64 x.f1,.int .i64 x.f2,.int .i64 x.f3,.string x.f4.f0,.string x.f4.f1,.string x.f4.f2] 48) = w6
   have hb6:w6.heap[wr.heap.size]? = some (.cells #[.int .i64 x.f0,.int .i64 x.f1,.int .i64 x.f2,.int .i64 x.f3,.string x.f4.f0,.string x.f4.f1,.string x.f4.f2] 48 (0,0)):=by rw [← hw6];exact blk_new _ _
   have hBl:Below wr.heap.size wr w6:=by rw [← hw6];exact below_alloc (Below.refl _ _) _
   replace HB:=Aside0.mk (below_then HB.out HB.out.size hBl)
   have k0:w6.cell? ⟨wr.heap.size,0,none⟩ = some (.int .i64 x.f0):=blk_cell hb6 0
   have k1:w6.cell? ⟨wr.heap.size,1,none⟩ = some (.int .i64 x.f1):=blk_cell hb6 1
   have k2:w6.cell? ⟨wr.heap.size,2,none⟩ = some (.int .i64 x.f2):=blk_cell hb6 2
   clear hb6 hBl hw6 h0 h1 h2 h3 h4 h5 h6
   by_cases hca:x.f0 < 1
   ·have hcad:=decide_eq_true hca
    go_quiet ((go_at_call 92;exact Calls.quiet_of_same (code92 _ _)))
    go_wp2_with fail
    go_ret
    refine ⟨?_,HB.out.trans (pw_below_drewN (Below.refl _ _) _)⟩
    rw [show rightB xs = false from by unfold rightB;rw [preB_bad HG.out HP.out (by omega),Bool.false_and]]
    first|rfl|simp
   have hcad:=decide_eq_false hca
   by_cases hcb:9999 < x.f0
   ·have hcbd:=decide_eq_true hcb
    go_quiet ((go_at_call 92;exact Calls.quiet_of_same (code92 _ _)))
    go_wp2_with fail
    go_ret
    refine ⟨?_,HB.out.trans (pw_below_drewN (Below.refl _ _) _)⟩
    rw [show rightB xs = false from by unfold rightB;rw [preB_bad HG.out HP.out (by omega),Bool.false_and]]
    first|rfl|simp
   have hcbd:=decide_eq_false hcb
   by_cases hk0:0 < kk
   case neg =>
    have hk0z:¬ (0:Int) < (kk:Int):=by omega
    have hdk:decide (0 < kk) = false:=decide_eq_false hk0
    by_cases hcg:x.f1 < 0
    ·have hcgd:=decide_eq_true hcg
     go_quiet ((go_at_call 92;exact Calls.quiet_of_same (code92 _ _)))
     go_wp2_with fail
     go_ret
     refine ⟨?_,HB.out.trans (pw_below_drewN (Below.refl _ _) _)⟩
     rw [show rightB xs = false from by unfold rightB;rw [preB_bad HG.out HP.out (by omega),Bool.false_and]]
     first|rfl|simp
    have hcgd:=decide_eq_false hcg
    by_cases hch:9999 < x.f1
    ·have hchd:=decide_eq_true hch
     go_quiet ((go_at_call 92;exact Calls.quiet_of_same (code92 _ _)))
     go_wp2_with fail
     go_ret
     refine ⟨?_,HB.out.trans (pw_below_drewN (Below.refl _ _) _)⟩
     rw [show rightB xs = false from by unfold rightB;rw [preB_bad HG.out HP.out (by omega),Bool.false_and]]
     first|rfl|simp
    have hchd:=decide_eq_false hch
    by_cases hci:x.f2 < 0
    ·have hcid:=decide_eq_true hci
     go_quiet ((go_at_call 92;exact Calls.quiet_of_same (code92 _ _)))
     go_wp2_with fail
     go_ret
     refine ⟨?_,HB.out.trans (pw_below_drewN (Below.refl _ _) _)⟩
     rw [show rightB xs = false from by unfold rightB;rw [preB_bad HG.out HP.out (by omega),Bool.false_and]]
     first|rfl|simp
    have hcid:=decide_eq_false hci
    by_cases hcj:9999 < x.f2
    ·have hcjd:=decide_eq_true hcj
     go_quiet ((go_at_call 92;exact Calls.quiet_of_same (code92 _ _)))
     go_wp2_with fail
     go_ret
     refine ⟨?_,HB.out.trans (pw_below_drewN (Below.refl _ _) _)⟩
     rw [show rightB xs = false from by unfold rightB;rw [preB_bad HG.out HP.out (by omega),Bool.false_and]]
     first|rfl|simp
    have hcjd:=decide_eq_false hcj
    by_cases hce:x.f1 = x.f2
    ·have hced:(x.f1 == x.f2) = true:=by rw [beq_iff_eq];exact hce
     have HE:=Aside0.mk hce
     clear hce
     go_quiet ((go_at_call 92;exact Calls.quiet_of_same (code92 _ _)))
     go_wp2_with fail
     go_ret
     refine ⟨?_,HB.out.trans (pw_below_drewN (Below.refl _ _) _)⟩
     rw [show rightB xs = false from by unfold rightB;rw [preB_bad HG.out HP.out (by have:=HE.out;omega),Bool.false_and]]
     first|rfl|simp
    have hced:(x.f1 == x.f2) = false:=by rw [beq_eq_false_iff_ne];exact hce
    have HN:=Aside0.mk (show 1≤x.f0∧x.f0≤9999∧0≤x.f1∧x.f1≤9999∧0≤x.f2∧x.f2≤9999∧x.f1≠x.f2 from by clear hdk;refine ⟨?_,?_,?_,?_,?_,?_,?_⟩<;>omega)
    go_quiet ((go_at_call 92;exact Calls.quiet_of_same (code92 _ _)))
    go_wp2_with fail
    go_roundg (xs.length - (kk + 1))
    case measure=>omega
    case rel =>
     exact ⟨kk + 1,by omega,by omega,by go_num,⟨HB.out.trans (pw_below_drewN (Below.refl _ _) _)⟩,⟨preB_ok HG.out HP.out HN.out (fun z hz0 hz=>absurd hz0 (by omega))⟩⟩
   have hk0z:(0:Int) < (kk:Int):=by omega
   have hdk:decide (0 < kk) = true:=decide_eq_true hk0
   obtain ⟨ji,hji⟩:∃ ji:Int,ji = (kk:Int) - 1:=⟨_,rfl⟩
   have hwr0:IntKind.i64.wrap ((kk:Int) - 1) = ji:=by rw [hji];exact IntWalk.i64_in _ (by omega)
   have hjp:0≤ji:=by omega
   have hjq:ji < (xs.length:Int):=by omega
   have HJ:=Aside0.mk (show ji.toNat = kk - 1 by omega)
   obtain ⟨ad2,e2,g0,_⟩:=at_T48 (Kd.C_below HR.out HB.out) ji hjp hjq
   cases e2
   have HY:=Aside0.mk (rd48_get xs ji.toNat (by omega))
   rw [show ((ji.toNat:Nat):Int) = ji from by omega] at HY
   generalize rd_T48 xs ji = y at g0 HY
   have HK0:=Aside0.mk hk0
   clear hji hk0
   have hjpd:decide (0≤ji) = true:=decide_eq_true hjp
   have hjqd:decide (ji < (xs.length:Int)) = true:=decide_eq_true hjq
   replace hjp:=eq_true hjp
   replace hjq:=eq_true hjq
   by_cases hcp:x.f0≤y.f0
   ·have hcd:=decide_eq_true hcp
    go_quiet ((go_at_call 92;exact Calls.quiet_of_same (code92 _ _)))
    go_wp2_with fail
    go_ret
    refine ⟨?_,HB.out.trans (pw_below_drewN (Below.refl _ _) _)⟩
    rw [show rightB xs = false from by unfold rightB;rw [preB_bad2 HG.out HP.out HK0.out (by rw [← HJ.out];exact HY.out) hcp,Bool.false_and]]
    first|rfl|simp
   have hcd:=decide_eq_false hcp
   by_cases hcg:x.f1 < 0
   ·have hcgd:=decide_eq_true hcg
    go_quiet ((go_at_call 92;exact Calls.quiet_of_same (code92 _ _)))
    go_wp2_with fail
    go_ret
    refine ⟨?_,HB.out.trans (pw_below_drewN (Below.refl _ _) _)⟩
    rw [show rightB xs = false from by unfold rightB;rw [preB_bad HG.out HP.out (by omega),Bool.false_and]]
    first|rfl|simp
   have hcgd:=decide_eq_false hcg
   by_cases hch:9999 < x.f1
   ·have hchd:=decide_eq_true hch
    go_quiet ((go_at_call 92;exact Calls.quiet_of_same (code92 _ _)))
    go_wp2_with fail
    go_ret
    refine ⟨?_,HB.out.trans (pw_below_drewN (Below.refl _ _) _)⟩
    rw [show rightB xs = false from by unfold rightB;rw [preB_bad HG.out HP.out (by omega),Bool.false_and]]
    first|rfl|simp
   have hchd:=decide_eq_false hch
   by_cases hci:x.f2 < 0
   ·have hcid:=decide_eq_true hci
    go_quiet ((go_at_call 92;exact Calls.quiet_of_same (code92 _ _)))
    go_wp2_with fail
    go_ret
    refine ⟨?_,HB.out.trans (pw_below_drewN (Below.refl _ _) _)⟩
    rw [show rightB xs = false from by unfold rightB;rw [preB_bad HG.out HP.out (by omega),Bool.false_and]]
    first|rfl|simp
   have hcid:=decide_eq_false hci
   by_cases hcj:9999 < x.f2
   ·have hcjd:=decide_eq_true hcj
    go_quiet ((go_at_call 92;exact Calls.quiet_of_same (code92 _ _)))
    go_wp2_with fail
    go_ret
    refine ⟨?_,HB.out.trans (pw_below_drewN (Below.refl _ _) _)⟩
    rw [show rightB xs = false from by unfold rightB;rw [preB_bad HG.out HP.out (by omega),Bool.false_and]]
    first|rfl|simp
   have hcjd:=decide_eq_false hcj
   by_cases hce:x.f1 = x.f2
   ·have hced:(x.f1 == x.f2) = true:=by rw [beq_iff_eq];exact hce
    have HE:=Aside0.mk hce
    clear hce
    go_quiet ((go_at_call 92;exact Calls.quiet_of_same (code92 _ _)))
    go_wp2_with fail
    go_ret
    refine ⟨?_,HB.out.trans (pw_below_drewN (Below.refl _ _) _)⟩
    rw [show rightB xs = false from by unfold rightB;rw [preB_bad HG.out HP.out (by have:=HE.out;omega),Bool.false_and]]
    first|rfl|simp
   have hced:(x.f1 == x.f2) = false:=by rw [beq_eq_false_iff_ne];exact hce
   have HN:=Aside0.mk (show 1≤x.f0∧x.f0≤9999∧0≤x.f1∧x.f1≤9999∧0≤x.f2∧x.f2≤9999∧x.f1≠x.f2 from by clear hwr0 hjp hjq hjpd hjqd hdk;refine ⟨?_,?_,?_,?_,?_,?_,?_⟩<;>omega)
   have HV:=Aside0.mk (show y.f0 < x.f0 from Int.not_le.1 hcp)
   go_quiet ((go_at_call 92;exact Calls.quiet_of_same (code92 _ _)))
   go_wp2_with fail
   go_roundg (xs.length - (kk + 1))
   case measure=>omega
   case rel =>
    exact ⟨kk + 1,by omega,by omega,by go_num,⟨HB.out.trans (pw_below_drewN (Below.refl _ _) _)⟩,⟨preB_ok HG.out HP.out HN.out (fun z hz0 hz=>by have h:=HY.out.symm.trans ((congrArg (fun i=>xs[i]?) HJ.out).trans hz);have e:=Option.some.inj h;rw [← e];exact HV.out)⟩⟩
  ·have hltz:¬ (kk:Int) < (xs.length:Int):=by omega
   replace HP:=Aside0.mk (show preB xs = true by have h:=HP.out;rwa [List.take_of_length_le (by omega)] at h)
   go_wp2_with fail
   go_ret
   refine ⟨?_,HB.out⟩
   unfold rightB
   rw [HP.out,Bool.true_and]
   rw [decide_eq_true (by omega)]
   rfl
def garboardref32_right.f (l0:List S48):Option Bool:=some (rightB l0)
theorem garboardref32_right.calls (A0:Option Addr) (c0:Nat) (l0:List S48) (r:Bool) (w:World) (hr0:Kd.C k48 w A0 l0.length l0) (hc0:l0.length≤c0) (h:garboardref32_right.f l0 = some r) :
  Calls Try.prog 81 #[.slice A0 l0.length c0] w fun e w'=>e = .returned (.bool r)∧Below w.heap.size w w':=by
 obtain rfl:=Option.some.inj h
 exact right81 A0 c0 l0 w hr0
mutual
def garboardref32_asks.j0:Nat→List (S48)→List Int→Bool→Option (Int)
 | 0,_,_,_=>none
 | k + 1,x0,x1,x21=>if x21 = true then (some 1) else (garboardref32_asks.l0 k x0 x1 1)
def garboardref32_asks.l0:Nat→List (S48)→List Int→Int→Option (Int)
 | 0,_,_,_=>none
 | k + 1,x0,x1,x7=>if x7 < (x1.length:Int) then (if 0≤x7 then (if 0≤(wrap64 (x7 - 1)) then (if (wrap64 (x7 - 1)) < (x1.length:Int) then (if (rd x1 x7)≤(rd x1 (wrap64 (x7 - 1))) then (some 5) else (garboardref32_asks.l0 k x0 x1 (wrap64 (x7 + 1)))) else (none)) else (none)) else (none)) else (garboardref32_asks.l1 k x0 x1 0)
def garboardref32_asks.l1:Nat→List (S48)→List Int→Int→Option (Int)
 | 0,_,_,_=>none
 | k + 1,x0,x1,x8=>if x8 < (x1.length:Int) then (if 0≤x8 then ((garboardref32_find.f k x0 (rd x1 x8)).bind fun t262=>(if t262 < 0 then (some 7) else (garboardref32_asks.l1 k x0 x1 (wrap64 (x8 + 1))))) else (none)) else (some 0)
end
def garboardref32_asks.f (k:Nat) (l0:List (S48)) (l1:List Int) (l2:List Int):Option (Int):=(garboardref32_right.f l0).bind fun t257=>(if t257 = true then (if (l2.length:Int) > 64 then (garboardref32_asks.j0 k l0 l1 true) else ((garboardref32_Rises.f k l2 0 9999).bind fun t258=>(garboardref32_asks.j0 k l0 l1 (!t258)))) else (garboardref32_asks.j0 k l0 l1 true))
set_option maxHeartbeats 8000000 in
set_option maxRecDepth 100000 in
theorem garboardref32_asks.calls (k:Nat) (A0:Option Addr) (c0:Nat) (l0:List (S48)) (A1:Option Addr) (c1:Nat) (l1:List Int) (A2:Option Addr) (c2:Nat) (l2:List Int) (r:Int) (w:World) (hr0:Kd.C k48 w A0 l0.length l0) (hc0:l0.length≤c0) (hr1:Kd.C (Kd.int .i64) w A1 l1.length l1) (hc1:l1.length≤c1) (hr2:Kd.C (Kd.int .i64) w A2 l2.length l2) (hc2:l2.length≤c2) (h:garboardref32_asks.f k l0 l1 l2 = some r) :
  Calls Try.prog 48 #[.slice A0 l0.length c0,.slice A1 l1.length c1,.slice A2 l2.length c2] w fun e w'=>e = .returned (.int .i64 r)∧Below w.heap.size w w':=by
 have HR0:=Aside0.mk hr0
 have HC0:=Aside0.mk hc0
 clear hr0 hc0
 have HR1:=Aside0.mk hr1
 have HC1:=Aside0.mk hc1
 clear hr1 hc1
 have HR2:=Aside0.mk hr2
 have HC2:=Aside0.mk hc2
 clear hr2 hc2
 have HB:=Aside0.mk (Below.refl w.heap.size w)
 have H:((garboardref32_right.f l0).bind fun t257=>(if t257 = true then (if (l2.length:Int) > 64 then (garboardref32_asks.j0 k l0 l1 true) else ((garboardref32_Rises.f k l2 0 9999).bind fun t258=>(garboardref32_asks.j0 k l0 l1 (!t258)))) else (garboardref32_asks.j0 k l0 l1 true))) = some r:=h
 clear h
 have HC4:=Aside0.mk H
 clear H
 go_enter Try.func48,Try.ntmps48
 go_upto_region 1 with (fail)
 repeat (go_quiet (fail);go_upto_region 1 with (fail))
 go_cut [21] (fun v21 wc=>∃ (kq:Nat) (x21_3:Bool),v21 = .bool x21_3∧Aside0 (garboardref32_asks.j0 kq l0 l1 x21_3 = some r)∧Aside0 (kq≤k)∧Aside0 (Below w.heap.size w wc))
 case first =>
  have H:=HC4.out
  clear HC4
  replace H:=Option.bind_eq_some_iff.mp H
  obtain ⟨t257,A50,H⟩:=H
  replace H:(if t257 = true then (if (l2.length:Int) > 64 then (garboardref32_asks.j0 k l0 l1 true) else ((garboardref32_Rises.f k l2 0 9999).bind fun t258=>(garboardref32_asks.j0 k l0 l1 (!t258)))) else (garboardref32_asks.j0 k l0 l1 true)) = some r:=H
  have A5:=Aside0.mk A50
  clear A50
  by_cases c6:t257 = true
  ·subst c6
   have H1:(if (l2.length:Int) > 64 then (garboardref32_asks.j0 k l0 l1 true) else ((garboardref32_Rises.f k l2 0 9999).bind fun t258=>(garboardref32_asks.j0 k l0 l1 (!t258)))) = some r:=by rw [if_pos rfl] at H;exact H
   clear H
   have H:=H1
   clear H1
   by_cases c7:(l2.length:Int) > 64
   ·rw [if_pos c7] at H
    have c7b0:decide (64 < (l2.length:Int)) = true:=decide_eq_true c7
    have c7b1:decide (64 < l2.length) = true:=decide_eq_true (by omega)
    clear c7
    (first|rw [c7b0]|(simp only [i64_w,i32_w];rw [c7b0])|skip)
    have H':=Aside0.mk H
    clear H
    go_wp2_with (first|(go_at_call 81;(with_reducible refine (garboardref32_right.calls _ _ l0 true _ ?side1 ?side2 A5.out).mono ?_);(case side1=>repeat (first|exact (Kd.C_below HR0.out HB.out)|(with_reducible refine Kd.C_alloc ?_ _)|(with_reducible refine Kd.C_drewN ?_ _)|(with_reducible refine Kd.C_drew ?_)));(case side2=>exact HC0.out);rintro e w8 ⟨rfl,hb⟩;have n0_:=Aside0.mk (below_step (by repeat (first|(with_reducible first|exact HB.out|apply below_alloc|apply pw_below_drewN|apply below_drew1)|exact HB.out)) hb);clear HB;have HB:=n0_;clear n0_;(try clear hb);(try clear hb2);(try clear hk);(try clear hi)))
    repeat (go_quiet (first|(go_at_call 81;(with_reducible refine (garboardref32_right.calls _ _ l0 true _ ?side1 ?side2 A5.out).mono ?_);(case side1=>repeat (first|exact (Kd.C_below HR0.out HB.out)|(with_reducible refine Kd.C_alloc ?_ _)|(with_reducible refine Kd.C_drewN ?_ _)|(with_reducible refine Kd.C_drew ?_)));(case side2=>exact HC0.out);rintro e w8 ⟨rfl,hb⟩;have n0_:=Aside0.mk (below_step (by repeat (first|(with_reducible first|exact HB.out|apply below_alloc|apply pw_below_drewN|apply below_drew1)|exact HB.out)) hb);clear HB;have HB:=n0_;clear n0_;(try clear hb);(try clear hb2);(try clear hk);(try clear hi)));try go_wp2_with (first|(go_at_call 81;(with_reducible refine (garboardref32_right.calls _ _ l0 true _ ?side1 ?side2 A5.out).mono ?_);(case side1=>repeat (first|exact (Kd.C_below HR0.out HB.out)|(with_reducible refine Kd.C_alloc ?_ _)|(with_reducible refine Kd.C_drewN ?_ _)|(with_reducible refine Kd.C_drew ?_)));(case side2=>exact HC0.out);rintro e w8 ⟨rfl,hb⟩;have n0_:=Aside0.mk (below_step (by repeat (first|(with_reducible first|exact HB.out|apply below_alloc|apply pw_below_drewN|apply below_drew1)|exact HB.out)) hb);clear HB;have HB:=n0_;clear n0_;(try clear hb);(try clear hb2);(try clear hk);(try clear hi))))
    go_meet
    case rel=>exact ⟨_,(true),(by first|rfl|(simp;done)|(simp [*];done)),H',⟨by first|omega|exact Nat.le_refl _⟩,⟨by repeat (first|(with_reducible first|exact HB.out|apply below_alloc|apply pw_below_drewN|apply below_drew1)|exact HB.out)⟩⟩
   ·rw [if_neg c7] at H
    have c7b0:decide (64 < (l2.length:Int)) = false:=decide_eq_false c7
    have c7b1:decide (64 < l2.length) = false:=decide_eq_false (by omega)
    clear c7
    (first|rw [c7b0]|(simp only [i64_w,i32_w];rw [c7b0])|skip)
    replace H:=Option.bind_eq_some_iff.mp H
    obtain ⟨t258,A90,H⟩:=H
    replace H:(garboardref32_asks.j0 k l0 l1 (!t258)) = some r:=H
    have A9:=Aside0.mk A90
    clear A90
    have H':=Aside0.mk H
    clear H
    go_wp2_with (first|(go_at_call 81;(with_reducible refine (garboardref32_right.calls _ _ l0 true _ ?side1 ?side2 A5.out).mono ?_);(case side1=>repeat (first|exact (Kd.C_below HR0.out HB.out)|(with_reducible refine Kd.C_alloc ?_ _)|(with_reducible refine Kd.C_drewN ?_ _)|(with_reducible refine Kd.C_drew ?_)));(case side2=>exact HC0.out);rintro e w10 ⟨rfl,hb⟩;have n0_:=Aside0.mk (below_step (by repeat (first|(with_reducible first|exact HB.out|apply below_alloc|apply pw_below_drewN|apply below_drew1)|exact HB.out)) hb);clear HB;have HB:=n0_;clear n0_;(try clear hb);(try clear hb2);(try clear hk);(try clear hi))|(go_at_call 82;(with_reducible refine (garboardref32_Rises.calls k _ _ l2 0 9999 t258 _ ?side1 ?side2 A9.out).mono ?_);(case side1=>repeat (first|exact (Kd.C_below HR2.out HB.out)|(with_reducible refine Kd.C_alloc ?_ _)|(with_reducible refine Kd.C_drewN ?_ _)|(with_reducible refine Kd.C_drew ?_)));(case side2=>exact HC2.out);rintro e w' ⟨rfl,⟨nd,rfl⟩⟩;(try first|exact ⟨rfl,_,World.drewN_drewN _ _ _⟩|exact ⟨rfl,_,Eq.trans (World.drewN_drewN _ _ _) (congrArg (World.drewN _) (Nat.add_assoc _ _ _))⟩)))
    repeat (go_quiet (first|(go_at_call 81;(with_reducible refine (garboardref32_right.calls _ _ l0 true _ ?side1 ?side2 A5.out).mono ?_);(case side1=>repeat (first|exact (Kd.C_below HR0.out HB.out)|(with_reducible refine Kd.C_alloc ?_ _)|(with_reducible refine Kd.C_drewN ?_ _)|(with_reducible refine Kd.C_drew ?_)));(case side2=>exact HC0.out);rintro e w10 ⟨rfl,hb⟩;have n0_:=Aside0.mk (below_step (by repeat (first|(with_reducible first|exact HB.out|apply below_alloc|apply pw_below_drewN|apply below_drew1)|exact HB.out)) hb);clear HB;have HB:=n0_;clear n0_;(try clear hb);(try clear hb2);(try clear hk);(try clear hi))|(go_at_call 82;(with_reducible refine (garboardref32_Rises.calls k _ _ l2 0 9999 t258 _ ?side1 ?side2 A9.out).mono ?_);(case side1=>repeat (first|exact (Kd.C_below HR2.out HB.out)|(with_reducible refine Kd.C_alloc ?_ _)|(with_reducible refine Kd.C_drewN ?_ _)|(with_reducible refine Kd.C_drew ?_)));(case side2=>exact HC2.out);rintro e w' ⟨rfl,⟨nd,rfl⟩⟩;(try first|exact ⟨rfl,_,World.drewN_drewN _ _ _⟩|exact ⟨rfl,_,Eq.trans (World.drewN_drewN _ _ _) (congrArg (World.drewN _) (Nat.add_assoc _ _ _))⟩)));try go_wp2_with (first|(go_at_call 81;(with_reducible refine (garboardref32_right.calls _ _ l0 true _ ?side1 ?side2 A5.out).mono ?_);(case side1=>repeat (first|exact (Kd.C_below HR0.out HB.out)|(with_reducible refine Kd.C_alloc ?_ _)|(with_reducible refine Kd.C_drewN ?_ _)|(with_reducible refine Kd.C_drew ?_)));(case side2=>exact HC0.out);rintro e w10 ⟨rfl,hb⟩;have n0_:=Aside0.mk (below_step (by repeat (first|(with_reducible first|exact HB.out|apply below_alloc|apply pw_below_drewN|apply below_drew1)|exact HB.out)) hb);clear HB;have HB:=n0_;clear n0_;(try clear hb);(try clear hb2);(try clear hk);(try clear hi))|(go_at_call 82;(with_reducible refine (garboardref32_Rises.calls k _ _ l2 0 9999 t258 _ ?side1 ?side2 A9.out).mono ?_);(case side1=>repeat (first|exact (Kd.C_below HR2.out HB.out)|(with_reducible refine Kd.C_alloc ?_ _)|(with_reducible refine Kd.C_drewN ?_ _)|(with_reducible refine Kd.C_drew ?_)));(case side2=>exact HC2.out);rintro e w' ⟨rfl,⟨nd,rfl⟩⟩;(try first|exact ⟨rfl,_,World.drewN_drewN _ _ _⟩|exact ⟨rfl,_,Eq.trans (World.drewN_drewN _ _ _) (congrArg (World.drewN _) (Nat.add_assoc _ _ _))⟩))))
    go_meet
    case rel=>exact ⟨_,(!t258),(by first|rfl|(simp;done)|(simp [*];done)),H',⟨by first|omega|exact Nat.le_refl _⟩,⟨by repeat (first|(with_reducible first|exact HB.out|apply below_alloc|apply pw_below_drewN|apply below_drew1)|exact HB.out)⟩⟩
  ·replace c6:=Bool.eq_false_iff.mpr c6
   subst c6
   have H1:(garboardref32_asks.j0 k l0 l1 true) = some r:=by rw [if_neg (show ¬ (false = true) by decide)] at H;exact H
   clear H
   have H:=H1
   clear H1
   have H':=Aside0.mk H
   clear H
   go_wp2_with (first|(go_at_call 81;(with_reducible refine (garboardref32_right.calls _ _ l0 false _ ?side1 ?side2 A5.out).mono ?_);(case side1=>repeat (first|exact (Kd.C_below HR0.out HB.out)|(with_reducible refine Kd.C_alloc ?_ _)|(with_reducible refine Kd.C_drewN ?_ _)|(with_reducible refine Kd.C_drew ?_)));(case side2=>exact HC0.out);rintro e w11 ⟨rfl,hb⟩;have n0_:=Aside0.mk (below_step (by repeat (first|(with_reducible first|exact HB.out|apply below_alloc|apply pw_below_drewN|apply below_drew1)|exact HB.out)) hb);clear HB;have HB:=n0_;clear n0_;(try clear hb);(try clear hb2);(try clear hk);(try clear hi)))
   repeat (go_quiet (first|(go_at_call 81;(with_reducible refine (garboardref32_right.calls _ _ l0 false _ ?side1 ?side2 A5.out).mono ?_);(case side1=>repeat (first|exact (Kd.C_below HR0.out HB.out)|(with_reducible refine Kd.C_alloc ?_ _)|(with_reducible refine Kd.C_drewN ?_ _)|(with_reducible refine Kd.C_drew ?_)));(case side2=>exact HC0.out);rintro e w11 ⟨rfl,hb⟩;have n0_:=Aside0.mk (below_step (by repeat (first|(with_reducible first|exact HB.out|apply below_alloc|apply pw_below_drewN|apply below_drew1)|exact HB.out)) hb);clear HB;have HB:=n0_;clear n0_;(try clear hb);(try clear hb2);(try clear hk);(try clear hi)));try go_wp2_with (first|(go_at_call 81;(with_reducible refine (garboardref32_right.calls _ _ l0 false _ ?side1 ?side2 A5.out).mono ?_);(case side1=>repeat (first|exact (Kd.C_below HR0.out HB.out)|(with_reducible refine Kd.C_alloc ?_ _)|(with_reducible refine Kd.C_drewN ?_ _)|(with_reducible refine Kd.C_drew ?_)));(case side2=>exact HC0.out);rintro e w11 ⟨rfl,hb⟩;have n0_:=Aside0.mk (below_step (by repeat (first|(with_reducible first|exact HB.out|apply below_alloc|apply pw_below_drewN|apply below_drew1)|exact HB.out)) hb);clear HB;have HB:=n0_;clear n0_;(try clear hb);(try clear hb2);(try clear hk);(try clear hi))))
   go_meet
   case rel=>exact ⟨_,(true),(by first|rfl|(simp;done)|(simp [*];done)),H',⟨by first|omega|exact Nat.le_refl _⟩,⟨by repeat (first|(with_reducible first|exact HB.out|apply below_alloc|apply pw_below_drewN|apply below_drew1)|exact HB.out)⟩⟩
 case rest =>
  clear HC4
  try clear c1
  try clear c2
  try clear p2
  try clear c4
  try clear c6
  try clear c7
  try clear c7b0
  try clear c7b1
  obtain ⟨kq,x21_3,rfl,HA,HJ3,HB⟩:=hcut
  cases kq with
  | zero=>exact absurd HA.out (by simp [garboardref32_asks.j0])
  | succ kj3 =>
   have H:=HA.out
   clear HA
   simp only [garboardref32_asks.j0] at H
   by_cases c12:x21_3 = true
   ·subst c12
    have H1:(some 1) = some r:=by rw [if_pos rfl] at H;exact H
    clear H
    have H:=H1
    clear H1
    obtain rfl:=Option.some.inj H
    go_wp2
    repeat (go_quiet (fail);try go_wp2)
    go_ret
    exact ⟨by first|rfl|(simp [errW_none,errW_some]<;>rfl)|(simp [*,errW_none,errW_some]<;>rfl),by repeat (first|(with_reducible first|exact HB.out|apply below_alloc|apply pw_below_drewN|apply below_drew1)|exact HB.out)⟩
   ·replace c12:=Bool.eq_false_iff.mpr c12
    subst c12
    have H1:(garboardref32_asks.l0 kj3 l0 l1 1) = some r:=by rw [if_neg (show ¬ (false = true) by decide)] at H;exact H
    clear H
    have H:=H1
    clear H1
    have H':=Aside0.mk H
    clear H
    go_wp2
    repeat (go_quiet (fail);try go_wp2)
    go_loopg [7] kj3 (fun kq v7 w'=>∃ (x7_2:Int),v7 = .int .i64 x7_2∧Aside0 (garboardref32_asks.l0 kq l0 l1 x7_2 = some r)∧Aside0 (kq≤kj3)∧Aside0 (Below w.heap.size w w'))
    case atStart=>exact ⟨(1),(by first|rfl|(simp;done)|(simp [*];done)),H',⟨Nat.le_refl _⟩,⟨by repeat (first|(with_reducible first|exact HB.out|apply below_alloc|apply pw_below_drewN|apply below_drew1)|exact HB.out)⟩⟩
    case round =>
     clear H'
     try clear c1
     try clear c2
     try clear p2
     try clear c4
     try clear c6
     try clear c7
     try clear c7b0
     try clear c7b1
     try clear c12
     try clear p2
     obtain ⟨x7_2,rfl,HA,HK2,HB⟩:=hrel
     cases gk with
     | zero=>exact absurd HA.out (by simp [garboardref32_asks.l0])
     | succ k2 =>
      have H:=HA.out
      clear HA
      simp only [garboardref32_asks.l0] at H
      by_cases c13:x7_2 < (l1.length:Int)
      ·rw [if_pos c13] at H
       have c13b0:decide (x7_2 < (l1.length:Int)) = true:=decide_eq_true c13
       clear c13
       by_cases c14:0≤x7_2
       ·rw [if_pos c14] at H
        have c14b0:decide (0≤x7_2) = true:=decide_eq_true c14
        clear c14
        obtain ⟨ji15,hji15⟩:∃ j_:Int,(wrap64 (x7_2 - 1)) = j_:=⟨_,rfl⟩
        replace H:(if 0≤(ji15) then (if (ji15) < (l1.length:Int) then (if (rd l1 x7_2)≤(rd l1 (ji15)) then (some 5) else (garboardref32_asks.l0 k2 l0 l1 (wrap64 (x7_2 + 1)))) else (none)) else (none)) = some r:=by first|(rw [hji15] at H;exact H)|(simp only [hji15] at H ⊢;exact H)
        have hji15w:(IntKind.i64.wrap (x7_2 - 1)) = ji15:=(i64_w _).trans hji15
        by_cases c16:0≤(ji15)
        ·rw [if_pos c16] at H
         have c16b0:decide (0≤(ji15)) = true:=decide_eq_true c16
         clear c16
         by_cases c17:(ji15) < (l1.length:Int)
         ·rw [if_pos c17] at H
          have c17b0:decide ((ji15) < (l1.length:Int)) = true:=decide_eq_true c17
          clear c17
          by_cases c18:(rd l1 x7_2)≤(rd l1 (ji15))
          ·rw [if_pos c18] at H
           have c18b0:decide ((rd l1 x7_2)≤(rd l1 (ji15))) = true:=decide_eq_true c18
           clear c18
           obtain rfl:=Option.some.inj H
           have p259:0≤(x7_2:Int):=of_decide_eq_true (by first|(with_reducible assumption)|assumption)
           have q259:x7_2 < (l1.length:Int):=of_decide_eq_true (by first|(with_reducible assumption)|assumption)
           obtain ⟨ad259,e259,hx259_0⟩:=Kd.at_int HR1.out x7_2 p259 q259
           cases e259
           replace hx259_0:=(HB.out.cell (World.block_lt_of_cell? w _ hx259_0)).trans hx259_0
           replace p259:=eq_true p259
           replace q259:=eq_true q259
           have p260:0≤((ji15):Int):=of_decide_eq_true (by first|(with_reducible assumption)|assumption)
           have q260:(ji15) < (l1.length:Int):=of_decide_eq_true (by first|(with_reducible assumption)|assumption)
           obtain ⟨ad260,e260,hx260_0⟩:=Kd.at_int HR1.out (ji15) p260 q260
           obtain rfl:ad259 = ad260:=(by injection e260)
           replace hx260_0:=(HB.out.cell (World.block_lt_of_cell? w _ hx260_0)).trans hx260_0
           replace p260:=eq_true p260
           replace q260:=eq_true q260
           go_wp2
           repeat (go_quiet (fail);try go_wp2)
           go_ret
           exact ⟨by first|rfl|(simp [errW_none,errW_some]<;>rfl)|(simp only [← hji15];first|rfl|(simp [errW_none,errW_some]<;>rfl))|(simp [*,errW_none,errW_some]<;>rfl),by repeat (first|(with_reducible first|exact HB.out|apply below_alloc|apply pw_below_drewN|apply below_drew1)|exact HB.out)⟩
          ·rw [if_neg c18] at H
           have c18b0:decide ((rd l1 x7_2)≤(rd l1 (ji15))) = false:=decide_eq_false c18
           clear c18
           have H':=Aside0.mk H
           clear H
           have p259:0≤(x7_2:Int):=of_decide_eq_true (by first|(with_reducible assumption)|assumption)
           have q259:x7_2 < (l1.length:Int):=of_decide_eq_true (by first|(with_reducible assumption)|assumption)
           obtain ⟨ad259,e259,hx259_0⟩:=Kd.at_int HR1.out x7_2 p259 q259
           cases e259
           replace hx259_0:=(HB.out.cell (World.block_lt_of_cell? w _ hx259_0)).trans hx259_0
           replace p259:=eq_true p259
           replace q259:=eq_true q259
           have p260:0≤((ji15):Int):=of_decide_eq_true (by first|(with_reducible assumption)|assumption)
           have q260:(ji15) < (l1.length:Int):=of_decide_eq_true (by first|(with_reducible assumption)|assumption)
           obtain ⟨ad260,e260,hx260_0⟩:=Kd.at_int HR1.out (ji15) p260 q260
           obtain rfl:ad259 = ad260:=(by injection e260)
           replace hx260_0:=(HB.out.cell (World.block_lt_of_cell? w _ hx260_0)).trans hx260_0
           replace p260:=eq_true p260
           replace q260:=eq_true q260
           go_wp2
           repeat (go_quiet (fail);try go_wp2)
           go_roundg k2
           case measure=>have:=HJ3.out;have:=HK2.out;omega
           case rel=>exact ⟨(wrap64 (x7_2 + 1)),(by first|rfl|(simp;done)|(simp [*];done)),H',⟨by have:=HJ3.out;have:=HK2.out;omega⟩,⟨by repeat (first|(with_reducible first|exact HB.out|apply below_alloc|apply pw_below_drewN|apply below_drew1)|exact HB.out)⟩⟩
         ·rw [if_neg c17] at H
          exact absurd H (by simp)
        ·rw [if_neg c16] at H
         exact absurd H (by simp)
       ·rw [if_neg c14] at H
        exact absurd H (by simp)
      ·rw [if_neg c13] at H
       have c13b0:decide (x7_2 < (l1.length:Int)) = false:=decide_eq_false c13
       clear c13
       have H':=Aside0.mk H
       clear H
       go_wp2
       repeat (go_quiet (fail);try go_wp2)
       go_loopg [8] k2 (fun kq v8 w'=>∃ (x8_3:Int),v8 = .int .i64 x8_3∧Aside0 (garboardref32_asks.l1 kq l0 l1 x8_3 = some r)∧Aside0 (kq≤k2)∧Aside0 (Below w.heap.size w w'))
       case atStart=>exact ⟨(0),(by first|rfl|(simp;done)|(simp [*];done)),H',⟨Nat.le_refl _⟩,⟨by repeat (first|(with_reducible first|exact HB.out|apply below_alloc|apply pw_below_drewN|apply below_drew1)|exact HB.out)⟩⟩
       case round =>
        clear H'
        try clear c1
        try clear c2
        try clear p2
        try clear q2
        try clear hx2
        try clear c4
        try clear c6
        try clear p6
        try clear c7
        try clear c7b0
        try clear c7b1
        try clear c12
        try clear c13
        try clear c13b0
        try clear c14
        try clear c14b0
        try clear c16
        try clear c16b0
        try clear c17
        try clear c17b0
        try clear c18
        try clear c18b0
        try clear hx259_0
        try clear hx260_0
        try clear p2
        try clear p259
        try clear p260
        try clear q259
        try clear q260
        obtain ⟨x8_3,rfl,HA,HK3,HB⟩:=hrel
        cases gk with
        | zero=>exact absurd HA.out (by simp [garboardref32_asks.l1])
        | succ k3 =>
         have H:=HA.out
         clear HA
         simp only [garboardref32_asks.l1] at H
         by_cases c19:x8_3 < (l1.length:Int)
         ·rw [if_pos c19] at H
          have c19b0:decide (x8_3 < (l1.length:Int)) = true:=decide_eq_true c19
          clear c19
          by_cases c20:0≤x8_3
          ·rw [if_pos c20] at H
           have c20b0:decide (0≤x8_3) = true:=decide_eq_true c20
           clear c20
           replace H:=Option.bind_eq_some_iff.mp H
           obtain ⟨t262,A210,H⟩:=H
           replace H:(if t262 < 0 then (some 7) else (garboardref32_asks.l1 k3 l0 l1 (wrap64 (x8_3 + 1)))) = some r:=H
           have A21:=Aside0.mk A210
           clear A210
           by_cases c22:t262 < 0
           ·rw [if_pos c22] at H
            have c22b0:decide (t262 < 0) = true:=decide_eq_true c22
            clear c22
            obtain rfl:=Option.some.inj H
            have p261:0≤(x8_3:Int):=of_decide_eq_true (by first|(with_reducible assumption)|assumption)
            have q261:x8_3 < (l1.length:Int):=of_decide_eq_true (by first|(with_reducible assumption)|assumption)
            obtain ⟨ad261,e261,hx261_0⟩:=Kd.at_int HR1.out x8_3 p261 q261
            cases e261
            replace hx261_0:=(HB.out.cell (World.block_lt_of_cell? w _ hx261_0)).trans hx261_0
            replace p261:=eq_true p261
            replace q261:=eq_true q261
            go_wp2_with (first|(go_at_call 83;(with_reducible refine (garboardref32_find.calls k3 _ _ l0 (rd l1 x8_3) t262 _ ?side1 ?side2 A21.out).mono ?_);(case side1=>repeat (first|exact (Kd.C_below HR0.out HB.out)|(with_reducible refine Kd.C_alloc ?_ _)|(with_reducible refine Kd.C_drewN ?_ _)|(with_reducible refine Kd.C_drew ?_)));(case side2=>exact HC0.out);rintro e w' ⟨rfl,⟨nd,rfl⟩⟩;(try first|exact ⟨rfl,_,World.drewN_drewN _ _ _⟩|exact ⟨rfl,_,Eq.trans (World.drewN_drewN _ _ _) (congrArg (World.drewN _) (Nat.add_assoc _ _ _))⟩)))
            repeat (go_quiet (first|(go_at_call 83;(with_reducible refine (garboardref32_find.calls k3 _ _ l0 (rd l1 x8_3) t262 _ ?side1 ?side2 A21.out).mono ?_);(case side1=>repeat (first|exact (Kd.C_below HR0.out HB.out)|(with_reducible refine Kd.C_alloc ?_ _)|(with_reducible refine Kd.C_drewN ?_ _)|(with_reducible refine Kd.C_drew ?_)));(case side2=>exact HC0.out);rintro e w' ⟨rfl,⟨nd,rfl⟩⟩;(try first|exact ⟨rfl,_,World.drewN_drewN _ _ _⟩|exact ⟨rfl,_,Eq.trans (World.drewN_drewN _ _ _) (congrArg (World.drewN _) (Nat.add_assoc _ _ _))⟩)));try go_wp2_with (first|(go_at_call 83;(with_reducible refine (garboardref32_find.calls k3 _ _ l0 (rd l1 x8_3) t262 _ ?side1 ?side2 A21.out).mono ?_);(case side1=>repeat (first|exact (Kd.C_below HR0.out HB.out)|(with_reducible refine Kd.C_alloc ?_ _)|(with_reducible refine Kd.C_drewN ?_ _)|(with_reducible refine Kd.C_drew ?_)));(case side2=>exact HC0.out);rintro e w' ⟨rfl,⟨nd,rfl⟩⟩;(try first|exact ⟨rfl,_,World.drewN_drewN _ _ _⟩|exact ⟨rfl,_,Eq.trans (World.drewN_drewN _ _ _) (congrArg (World.drewN _) (Nat.add_assoc _ _ _))⟩))))
            go_ret
            exact ⟨by first|rfl|(simp [errW_none,errW_some]<;>rfl)|(simp [*,errW_none,errW_some]<;>rfl),by repeat (first|(with_reducible first|exact HB.out|apply below_alloc|apply pw_below_drewN|apply below_drew1)|exact HB.out)⟩
           ·rw [if_neg c22] at H
            have c22b0:decide (t262 < 0) = false:=decide_eq_false c22
            clear c22
            have H':=Aside0.mk H
            clear H
            have p261:0≤(x8_3:Int):=of_decide_eq_true (by first|(with_reducible assumption)|assumption)
            have q261:x8_3 < (l1.length:Int):=of_decide_eq_true (by first|(with_reducible assumption)|assumption)
            obtain ⟨ad261,e261,hx261_0⟩:=Kd.at_int HR1.out x8_3 p261 q261
            cases e261
            replace hx261_0:=(HB.out.cell (World.block_lt_of_cell? w _ hx261_0)).trans hx261_0
            replace p261:=eq_true p261
            replace q261:=eq_true q261
            go_wp2_with (first|(go_at_call 83;(with_reducible refine (garboardref32_find.calls k3 _ _ l0 (rd l1 x8_3) t262 _ ?side1 ?side2 A21.out).mono ?_);(case side1=>repeat (first|exact (Kd.C_below HR0.out HB.out)|(with_reducible refine Kd.C_alloc ?_ _)|(with_reducible refine Kd.C_drewN ?_ _)|(with_reducible refine Kd.C_drew ?_)));(case side2=>exact HC0.out);rintro e w' ⟨rfl,⟨nd,rfl⟩⟩;(try first|exact ⟨rfl,_,World.drewN_drewN _ _ _⟩|exact ⟨rfl,_,Eq.trans (World.drewN_drewN _ _ _) (congrArg (World.drewN _) (Nat.add_assoc _ _ _))⟩)))
            repeat (go_quiet (first|(go_at_call 83;(with_reducible refine (garboardref32_find.calls k3 _ _ l0 (rd l1 x8_3) t262 _ ?side1 ?side2 A21.out).mono ?_);(case side1=>repeat (first|exact (Kd.C_below HR0.out HB.out)|(with_reducible refine Kd.C_alloc ?_ _)|(with_reducible refine Kd.C_drewN ?_ _)|(with_reducible refine Kd.C_drew ?_)));(case side2=>exact HC0.out);rintro e w' ⟨rfl,⟨nd,rfl⟩⟩;(try first|exact ⟨rfl,_,World.drewN_drewN _ _ _⟩|exact ⟨rfl,_,Eq.trans (World.drewN_drewN _ _ _) (congrArg (World.drewN _) (Nat.add_assoc _ _ _))⟩)));try go_wp2_with (first|(go_at_call 83;(with_reducible refine (garboardref32_find.calls k3 _ _ l0 (rd l1 x8_3) t262 _ ?side1 ?side2 A21.out).mono ?_);(case side1=>repeat (first|exact (Kd.C_below HR0.out HB.out)|(with_reducible refine Kd.C_alloc ?_ _)|(with_reducible refine Kd.C_drewN ?_ _)|(with_reducible refine Kd.C_drew ?_)));(case side2=>exact HC0.out);rintro e w' ⟨rfl,⟨nd,rfl⟩⟩;(try first|exact ⟨rfl,_,World.drewN_drewN _ _ _⟩|exact ⟨rfl,_,Eq.trans (World.drewN_drewN _ _ _) (congrArg (World.drewN _) (Nat.add_assoc _ _ _))⟩))))
            go_roundg k3
            case measure=>have:=HJ3.out;have:=HK2.out;have:=HK3.out;omega
            case rel=>exact ⟨(wrap64 (x8_3 + 1)),(by first|rfl|(simp;done)|(simp [*];done)),H',⟨by have:=HJ3.out;have:=HK2.out;have:=HK3.out;omega⟩,⟨by repeat (first|(with_reducible first|exact HB.out|apply below_alloc|apply pw_below_drewN|apply below_drew1)|exact HB.out)⟩⟩
          ·rw [if_neg c20] at H
           exact absurd H (by simp)
         ·rw [if_neg c19] at H
          have c19b0:decide (x8_3 < (l1.length:Int)) = false:=decide_eq_false c19
          clear c19
          obtain rfl:=Option.some.inj H
          go_wp2
          repeat (go_quiet (fail);try go_wp2)
          go_ret
          exact ⟨by first|rfl|(simp [errW_none,errW_some]<;>rfl)|(simp [*,errW_none,errW_some]<;>rfl),by repeat (first|(with_reducible first|exact HB.out|apply below_alloc|apply pw_below_drewN|apply below_drew1)|exact HB.out)⟩
def garboardref32_Has.l0:Nat→List Int→Int→Int→Option (Bool)
 | 0,_,_,_=>none
 | k + 1,x0,x1,x5=>if x5 < (x0.length:Int) then (if 0≤x5 then (if (rd x0 x5) = x1 then (some true) else (garboardref32_Has.l0 k x0 x1 (wrap64 (x5 + 1)))) else (none)) else (some false)
def garboardref32_Has.f (k:Nat) (l0:List Int) (a1:Int):Option (Bool):=garboardref32_Has.l0 k l0 a1 0
set_option maxHeartbeats 8000000 in
set_option maxRecDepth 100000 in
theorem garboardref32_Has.calls (k:Nat) (A0:Option Addr) (c0:Nat) (l0:List Int) (a1:Int) (r:Bool) (w:World) (hr0:Kd.C (Kd.int .i64) w A0 l0.length l0) (hc0:l0.length≤c0) (h:garboardref32_Has.f k l0 a1 = some r) :
  Calls Try.prog 50 #[.slice A0 l0.length c0,.int .i64 a1] w fun e w'=>e = .returned (.bool r)∧Drawn0 w w':=by
 have HR0:=Aside0.mk hr0
 have HC0:=Aside0.mk hc0
 clear hr0 hc0
 have H:(garboardref32_Has.l0 k l0 a1 0) = some r:=h
 clear h
 have H':=Aside0.mk H
 clear H
 go_enter Try.func50,Try.ntmps50
 go_wp2
 go_loopg [5] k (fun kq v5 w'=>∃ (x5_1:Int),v5 = .int .i64 x5_1∧Aside0 (garboardref32_Has.l0 kq l0 a1 x5_1 = some r)∧Aside0 (kq≤k)∧Drawn0 w w')
 case atStart=>exact ⟨(0),(by first|rfl|(simp;done)|(simp [*];done)),H',⟨Nat.le_refl _⟩,by repeat (first|exact Drawn0.refl _|apply Drawn0.step)⟩
 case round =>
  clear H'
  try clear p2
  obtain ⟨x5_1,rfl,HA,HK1,⟨m1,rfl⟩⟩:=hrel
  cases gk with
  | zero=>exact absurd HA.out (by simp [garboardref32_Has.l0])
  | succ k1 =>
   have H:=HA.out
   clear HA
   simp only [garboardref32_Has.l0] at H
   by_cases c3:x5_1 < (l0.length:Int)
   ·rw [if_pos c3] at H
    have c3b0:decide (x5_1 < (l0.length:Int)) = true:=decide_eq_true c3
    clear c3
    by_cases c4:0≤x5_1
    ·rw [if_pos c4] at H
     have c4b0:decide (0≤x5_1) = true:=decide_eq_true c4
     clear c4
     by_cases c5:(rd l0 x5_1) = a1
     ·rw [if_pos c5] at H
      have c5b0:((rd l0 x5_1) == a1) = true:=beq_iff_eq.mpr c5
      have c5b1:((rd l0 x5_1) != a1) = false:=bne_eq_false_iff_eq.mpr c5
      clear c5
      obtain rfl:=Option.some.inj H
      have p263:0≤(x5_1:Int):=of_decide_eq_true (by first|(with_reducible assumption)|assumption)
      have q263:x5_1 < (l0.length:Int):=of_decide_eq_true (by first|(with_reducible assumption)|assumption)
      obtain ⟨ad263,e263,hx263_0⟩:=Kd.at_int HR0.out x5_1 p263 q263
      cases e263
      replace p263:=eq_true p263
      replace q263:=eq_true q263
      go_wp2
      go_ret
      exact ⟨by first|rfl|(simp;done)|(simp [*];done),by repeat (first|exact Drawn0.refl _|apply Drawn0.step)⟩
     ·rw [if_neg c5] at H
      have c5b0:((rd l0 x5_1) == a1) = false:=beq_eq_false_iff_ne.mpr c5
      have c5b1:((rd l0 x5_1) != a1) = true:=bne_iff_ne.mpr c5
      have H':=Aside0.mk H
      clear H
      have p263:0≤(x5_1:Int):=of_decide_eq_true (by first|(with_reducible assumption)|assumption)
      have q263:x5_1 < (l0.length:Int):=of_decide_eq_true (by first|(with_reducible assumption)|assumption)
      obtain ⟨ad263,e263,hx263_0⟩:=Kd.at_int HR0.out x5_1 p263 q263
      cases e263
      replace p263:=eq_true p263
      replace q263:=eq_true q263
      go_wp2
      go_roundg k1
      case measure=>have:=HK1.out;omega
      case rel=>exact ⟨(wrap64 (x5_1 + 1)),(by first|rfl|(simp;done)|(simp [*];done)),H',⟨by have:=HK1.out;omega⟩,by repeat (first|exact Drawn0.refl _|apply Drawn0.step)⟩
    ·rw [if_neg c4] at H
     exact absurd H (by simp)
   ·rw [if_neg c3] at H
    have c3b0:decide (x5_1 < (l0.length:Int)) = false:=decide_eq_false c3
    clear c3
    obtain rfl:=Option.some.inj H
    go_wp2
    go_ret
    exact ⟨by first|rfl|(simp;done)|(simp [*];done),by repeat (first|exact Drawn0.refl _|apply Drawn0.step)⟩
def garboardref32_opens.l0:Nat→List (S48)→List Int→List (S48)→Int→Option ((List (S48)))
 | 0,_,_,_,_=>none
 | k + 1,x0,x1,x5,x6=>if x6 < (x0.length:Int) then (if 0≤x6 then ((garboardref32_Has.f k x1 ((rd_T48 x0 x6).f0)).bind fun t268=>(if t268 = true then (if x5.length < 1759218604441 then (garboardref32_opens.l0 k x0 x1 (x5 ++ [(⟨(rd_T48 x0 x6).f0,(rd_T48 x0 x6).f1,(rd_T48 x0 x6).f2,(rd_T48 x0 x6).f3,(⟨(rd_T48 x0 x6).f4.f0,(rd_T48 x0 x6).f4.f1,(rd_T48 x0 x6).f4.f2⟩:S46)⟩:S48)]) (wrap64 (x6 + 1))) else (none)) else (garboardref32_opens.l0 k x0 x1 x5 (wrap64 (x6 + 1))))) else (none)) else (some x5)
def garboardref32_opens.f (k:Nat) (l0:List (S48)) (l1:List Int):Option ((List (S48))):=garboardref32_opens.l0 k l0 l1 (([]:List (S48))) 0
set_option maxHeartbeats 8000000 in
set_option maxRecDepth 100000 in
theorem garboardref32_opens.calls (k:Nat) (A0:Option Addr) (c0:Nat) (l0:List (S48)) (A1:Option Addr) (c1:Nat) (l1:List Int) (r:List (S48)) (w:World) (hr0:Kd.C k48 w A0 l0.length l0) (hc0:l0.length≤c0) (hr1:Kd.C (Kd.int .i64) w A1 l1.length l1) (hc1:l1.length≤c1) (h:garboardref32_opens.f k l0 l1 = some r) :
  Calls Try.prog 49 #[.slice A0 l0.length c0,.slice A1 l1.length c1] w fun e w'=>∃ v0_:Value,e = .returned (v0_)∧Kd.R k48 48 w' w.heap.size (fun _=>True) v0_ r∧Below w.heap.size w w':=by
 have hu48:=Try.underlying48
 have HR0:=Aside0.mk hr0
 have HC0:=Aside0.mk hc0
 clear hr0 hc0
 have HR1:=Aside0.mk hr1
 have HC1:=Aside0.mk hc1
 clear hr1 hc1
 have HB:=Aside0.mk (Below.refl w.heap.size w)
 have H:(garboardref32_opens.l0 k l0 l1 (([]:List (S48))) 0) = some r:=h
 clear h
 obtain ⟨y264,hy264⟩:∃ y_:List (S48),y_ = (([]:List (S48))):=⟨_,rfl⟩
 replace H:(garboardref32_opens.l0 k l0 l1 y264 0) = some r:=by first|(rw [hy264];with_reducible exact H)|(have H2_:=(Option.bind_some _ _).symm.trans H;rw [hy264];with_reducible exact H2_)|(have H2_:=(Option.bind_some _ _).symm.trans H;with_reducible exact H2_)|with_reducible exact H|(rw [hy264];exact H)|exact H
 have Ny264:=Aside0.mk hy264
 clear hy264
 have H':=Aside0.mk H
 clear H
 go_enter Try.func49,Try.ntmps49
 go_wp2_with (first|((with_reducible refine gate_dst (N:=7) rfl ?_);refine Kd.R_lit k48 _ 48 ?hg (N:=7) ?hd (xs:=([]:List (S48))) (inner:=[]) (ok:=fun _=>True) (okp:=fun _=>True) ?hr ?hp (fun _ hk=>hk) trivial (Below.refl _ _) (Nat.le_refl _) (by simp) ?_;(case hd=>rfl);(case hg=>rfl);(case hr=>first|(go_simp;done)|(go_simp;rfl));(case hp=>exact (Reps.none _ _));intro v265 w3 ho4 hb hg_ hnew_;clear hg_ hnew_;(first|rw [← Ny264.out] at ho4|(simp only [Int.reduceToNat] at ho4;rw [← Ny264.out] at ho4));have n0_:=Aside0.mk (Kd.R_lower ho4 (below_size (by repeat (first|(with_reducible first|exact HB.out|apply below_alloc|apply pw_below_drewN|apply below_drew1)|exact HB.out))));have n1_:=Aside0.mk (below_step (by repeat (first|(with_reducible first|exact HB.out|apply below_alloc|apply pw_below_drewN|apply below_drew1)|exact HB.out)) hb);clear HB;have HO266:=n0_;have HB:=n1_;clear n0_ n1_;clear hb ho4))
 go_loopg [5,6] k (fun kq v5 v6 w'=>∃ (x5_1:List (S48)) (x6_1:Int),v6 = .int .i64 x6_1∧Aside0 (garboardref32_opens.l0 kq l0 l1 x5_1 x6_1 = some r)∧Aside0 (kq≤k)∧Aside0 (Kd.R k48 48 w' w.heap.size (fun _=>True) v5 x5_1)∧Aside0 (Below w.heap.size w w'))
 case atStart=>exact ⟨(y264),(0),(by first|rfl|(simp;done)|(simp [*];done)),H',⟨Nat.le_refl _⟩,⟨by (with_reducible repeat (first|apply Kd.R_alloc|apply Kd.R_drewN|apply Kd.R_drew));exact HO266.out⟩,⟨by repeat (first|(with_reducible first|exact HB.out|apply below_alloc|apply pw_below_drewN|apply below_drew1)|exact HB.out)⟩⟩
 case round =>
  clear H'
  try clear c1
  try clear p2
  try clear c4
  obtain ⟨x5_1,x6_1,rfl,HA,HK1,HO_5,HB⟩:=hrel
  cases gk with
  | zero=>exact absurd HA.out (by simp [garboardref32_opens.l0])
  | succ k1 =>
   have H:=HA.out
   clear HA
   simp only [garboardref32_opens.l0] at H
   by_cases c5:x6_1 < (l0.length:Int)
   ·rw [if_pos c5] at H
    have c5b0:decide (x6_1 < (l0.length:Int)) = true:=decide_eq_true c5
    clear c5
    by_cases c6:0≤x6_1
    ·rw [if_pos c6] at H
     have c6b0:decide (0≤x6_1) = true:=decide_eq_true c6
     clear c6
     replace H:=Option.bind_eq_some_iff.mp H
     obtain ⟨t268,A70,H⟩:=H
     replace H:(if t268 = true then (if x5_1.length < 1759218604441 then (garboardref32_opens.l0 k1 l0 l1 (x5_1 ++ [(⟨(rd_T48 l0 x6_1).f0,(rd_T48 l0 x6_1).f1,(rd_T48 l0 x6_1).f2,(rd_T48 l0 x6_1).f3,(⟨(rd_T48 l0 x6_1).f4.f0,(rd_T48 l0 x6_1).f4.f1,(rd_T48 l0 x6_1).f4.f2⟩:S46)⟩:S48)]) (wrap64 (x6_1 + 1))) else (none)) else (garboardref32_opens.l0 k1 l0 l1 x5_1 (wrap64 (x6_1 + 1)))) = some r:=H
     have A7:=Aside0.mk A70
     clear A70
     by_cases c8:t268 = true
     ·subst c8
      have H1:(if x5_1.length < 1759218604441 then (garboardref32_opens.l0 k1 l0 l1 (x5_1 ++ [(⟨(rd_T48 l0 x6_1).f0,(rd_T48 l0 x6_1).f1,(rd_T48 l0 x6_1).f2,(rd_T48 l0 x6_1).f3,(⟨(rd_T48 l0 x6_1).f4.f0,(rd_T48 l0 x6_1).f4.f1,(rd_T48 l0 x6_1).f4.f2⟩:S46)⟩:S48)]) (wrap64 (x6_1 + 1))) else (none)) = some r:=by rw [if_pos rfl] at H;exact H
      clear H
      have H:=H1
      clear H1
      by_cases c9:x5_1.length < 1759218604441
      ·rw [if_pos c9] at H
       have LMc9:=Aside0.mk c9
       clear c9
       obtain ⟨y270,hy270⟩:∃ y_:List (S48),y_ = (x5_1 ++ [(⟨(rd_T48 l0 x6_1).f0,(rd_T48 l0 x6_1).f1,(rd_T48 l0 x6_1).f2,(rd_T48 l0 x6_1).f3,(⟨(rd_T48 l0 x6_1).f4.f0,(rd_T48 l0 x6_1).f4.f1,(rd_T48 l0 x6_1).f4.f2⟩:S46)⟩:S48)]):=⟨_,rfl⟩
       replace H:(garboardref32_opens.l0 k1 l0 l1 y270 (wrap64 (x6_1 + 1))) = some r:=by first|(rw [hy270];with_reducible exact H)|(have H2_:=(Option.bind_some _ _).symm.trans H;rw [hy270];with_reducible exact H2_)|(have H2_:=(Option.bind_some _ _).symm.trans H;with_reducible exact H2_)|with_reducible exact H|(rw [hy270];exact H)|exact H
       have Ny270:=Aside0.mk hy270
       clear hy270
       have H':=Aside0.mk H
       clear H
       have p267:0≤(x6_1:Int):=of_decide_eq_true (by first|(with_reducible assumption)|assumption)
       have q267:x6_1 < (l0.length:Int):=of_decide_eq_true (by first|(with_reducible assumption)|assumption)
       obtain ⟨ad267,e267,hx267_0,hx267_1,hx267_2,hx267_3,hx267_4,hx267_5,hx267_6⟩:=at_T48 HR0.out x6_1 p267 q267
       cases e267
       replace hx267_0:=(HB.out.cell (World.block_lt_of_cell? w _ hx267_0)).trans hx267_0
       replace hx267_1:=(HB.out.cell (World.block_lt_of_cell? w _ hx267_1)).trans hx267_1
       replace hx267_2:=(HB.out.cell (World.block_lt_of_cell? w _ hx267_2)).trans hx267_2
       replace hx267_3:=(HB.out.cell (World.block_lt_of_cell? w _ hx267_3)).trans hx267_3
       replace hx267_4:=(HB.out.cell (World.block_lt_of_cell? w _ hx267_4)).trans hx267_4
       replace hx267_5:=(HB.out.cell (World.block_lt_of_cell? w _ hx267_5)).trans hx267_5
       replace hx267_6:=(HB.out.cell (World.block_lt_of_cell? w _ hx267_6)).trans hx267_6
       replace p267:=eq_true p267
       replace q267:=eq_true q267
       go_wp2_with (first|((with_reducible refine gate_callee (f:=50) rfl ?_);refine goesL_ (some 20) rfl rfl Try.func50 (by kernel_rfl) rfl #[.slice A1 l1.length c1,.int .i64 ((rd_T48 l0 x6_1).f0)] rfl (by (try simp only [List.map_toArray,List.map_cons,List.map_nil]);first|done|rfl|(simp only [List.length_drop,List.length_take];rfl)) ?_;(with_reducible refine (garboardref32_Has.calls k1 _ _ l1 ((rd_T48 l0 x6_1).f0) true _ ?side1 ?side2 A7.out).mono ?_);(case side1=>repeat (first|exact (Kd.C_below HR1.out HB.out)|(with_reducible refine Kd.C_alloc ?_ _)|(with_reducible refine Kd.C_drewN ?_ _)|(with_reducible refine Kd.C_drew ?_)));(case side2=>exact HC1.out);rintro e w' ⟨rfl,⟨nd,rfl⟩⟩;refine ⟨_,rfl,?_⟩;have p269:0≤(x6_1:Int):=of_decide_eq_true (by first|(with_reducible assumption)|assumption);have q269:x6_1 < (l0.length:Int):=of_decide_eq_true (by first|(with_reducible assumption)|assumption);obtain ⟨ad269,e269,hx269_0,hx269_1,hx269_2,hx269_3,hx269_4,hx269_5,hx269_6⟩:=at_T48 HR0.out x6_1 p269 q269;obtain rfl:ad267 = ad269:=(by injection e269);replace hx269_0:=(HB.out.cell (World.block_lt_of_cell? w _ hx269_0)).trans hx269_0;replace hx269_1:=(HB.out.cell (World.block_lt_of_cell? w _ hx269_1)).trans hx269_1;replace hx269_2:=(HB.out.cell (World.block_lt_of_cell? w _ hx269_2)).trans hx269_2;replace hx269_3:=(HB.out.cell (World.block_lt_of_cell? w _ hx269_3)).trans hx269_3;replace hx269_4:=(HB.out.cell (World.block_lt_of_cell? w _ hx269_4)).trans hx269_4;replace hx269_5:=(HB.out.cell (World.block_lt_of_cell? w _ hx269_5)).trans hx269_5;replace hx269_6:=(HB.out.cell (World.block_lt_of_cell? w _ hx269_6)).trans hx269_6;replace p269:=eq_true p269;replace q269:=eq_true q269)|((with_reducible refine gate_builtin (b:=.append) (xs:=#[.tmp 21,.tmp 26]) rfl ?_);at_builtin;refine Kd.R_append k48 (w0:=w) w.heap.size rfl (.tmp 21) (.tmp 26) 22 48 (.agg #[(.int .i64 0),(.int .i64 0),(.int .i64 0),(.int .i64 0),(.string ⟨#[]⟩),(.string ⟨#[]⟩),(.string ⟨#[]⟩)]) 80 rfl Try.underlying22 info48 rfl (by decide) (by omega) u5 x5_1 (⟨(rd_T48 l0 x6_1).f0,(rd_T48 l0 x6_1).f1,(rd_T48 l0 x6_1).f2,(rd_T48 l0 x6_1).f3,(⟨(rd_T48 l0 x6_1).f4.f0,(rd_T48 l0 x6_1).f4.f1,(rd_T48 l0 x6_1).f4.f2⟩:S46)⟩:S48) [.int .i64 ((rd_T48 l0 x6_1).f0),.int .i64 ((rd_T48 l0 x6_1).f1),.int .i64 ((rd_T48 l0 x6_1).f2),.int .i64 ((rd_T48 l0 x6_1).f3),.string ((rd_T48 l0 x6_1).f4.f0),.string ((rd_T48 l0 x6_1).f4.f1),.string ((rd_T48 l0 x6_1).f4.f2)] (fun _=>True) (fun _=>False) rfl rfl ?aP (fun _ hk=>hk.elim) ?aF ?aO ?aB ?aS ?aL ?_;(case aP=>exact k48_mkM _ _ _ (⟨(rd_T48 l0 x6_1).f0,(rd_T48 l0 x6_1).f1,(rd_T48 l0 x6_1).f2,(rd_T48 l0 x6_1).f3,(⟨(rd_T48 l0 x6_1).f4.f0,(rd_T48 l0 x6_1).f4.f1,(rd_T48 l0 x6_1).f4.f2⟩:S46)⟩:S48));(case aB=>exact (by repeat (first|(with_reducible first|exact HB.out|apply below_alloc|apply pw_below_drewN|apply below_drew1)|exact HB.out)));(case aF=>exact (fun _ _=>trivial));(case aO=>exact (by (with_reducible repeat (first|apply Kd.R_alloc|apply Kd.R_drewN|apply Kd.R_drew));exact HO_5.out));(case aS=>exact (below_size (by repeat (first|(with_reducible first|exact HB.out|apply below_alloc|apply pw_below_drewN|apply below_drew1)|exact HB.out))));(case aL=>have:=LMc9.out;omega);intro v271 w10 ho hb hg hat;rw [← Ny270.out] at ho;have n0_:=Aside0.mk (hb);have n1_:=Aside0.mk (ho);clear HB;clear HO_5;have HB:=n0_;have HO272:=n1_;clear n0_ n1_;clear ho hb hg hat))
       go_roundg k1
       case measure=>have:=HK1.out;omega
       case rel=>exact ⟨(y270),(wrap64 (x6_1 + 1)),(by first|rfl|(simp;done)|(simp [*];done)),H',⟨by have:=HK1.out;omega⟩,⟨by (with_reducible repeat (first|apply Kd.R_alloc|apply Kd.R_drewN|apply Kd.R_drew));exact HO272.out⟩,⟨by repeat (first|(with_reducible first|exact HB.out|apply below_alloc|apply pw_below_drewN|apply below_drew1)|exact HB.out)⟩⟩
      ·rw [if_neg c9] at H
       exact absurd H (by simp)
     ·replace c8:=Bool.eq_false_iff.mpr c8
      subst c8
      have H1:(garboardref32_opens.l0 k1 l0 l1 x5_1 (wrap64 (x6_1 + 1))) = some r:=by rw [if_neg (show ¬ (false = true) by decide)] at H;exact H
      clear H
      have H:=H1
      clear H1
      have H':=Aside0.mk H
      clear H
      have p267:0≤(x6_1:Int):=of_decide_eq_true (by first|(with_reducible assumption)|assumption)
      have q267:x6_1 < (l0.length:Int):=of_decide_eq_true (by first|(with_reducible assumption)|assumption)
      obtain ⟨ad267,e267,hx267_0,hx267_1,hx267_2,hx267_3,hx267_4,hx267_5,hx267_6⟩:=at_T48 HR0.out x6_1 p267 q267
      cases e267
      replace hx267_0:=(HB.out.cell (World.block_lt_of_cell? w _ hx267_0)).trans hx267_0
      replace hx267_1:=(HB.out.cell (World.block_lt_of_cell? w _ hx267_1)).trans hx267_1
      replace hx267_2:=(HB.out.cell (World.block_lt_of_cell? w _ hx267_2)).trans hx267_2
      replace hx267_3:=(HB.out.cell (World.block_lt_of_cell? w _ hx267_3)).trans hx267_3
      replace hx267_4:=(HB.out.cell (World.block_lt_of_cell? w _ hx267_4)).trans hx267_4
      replace hx267_5:=(HB.out.cell (World.block_lt_of_cell? w _ hx267_5)).trans hx267_5
      replace hx267_6:=(HB.out.cell (World.block_lt_of_cell? w _ hx267_6)).trans hx267_6
      replace p267:=eq_true p267
      replace q267:=eq_true q267
      go_wp2_with (first|((with_reducible refine gate_callee (f:=50) rfl ?_);refine goesL_ (some 20) rfl rfl Try.func50 (by kernel_rfl) rfl #[.slice A1 l1.length c1,.int .i64 ((rd_T48 l0 x6_1).f0)] rfl (by (try simp only [List.map_toArray,List.map_cons,List.map_nil]);first|done|rfl|(simp only [List.length_drop,List.length_take];rfl)) ?_;(with_reducible refine (garboardref32_Has.calls k1 _ _ l1 ((rd_T48 l0 x6_1).f0) false _ ?side1 ?side2 A7.out).mono ?_);(case side1=>repeat (first|exact (Kd.C_below HR1.out HB.out)|(with_reducible refine Kd.C_alloc ?_ _)|(with_reducible refine Kd.C_drewN ?_ _)|(with_reducible refine Kd.C_drew ?_)));(case side2=>exact HC1.out);rintro e w' ⟨rfl,⟨nd,rfl⟩⟩;refine ⟨_,rfl,?_⟩))
      go_roundg k1
      case measure=>have:=HK1.out;omega
      case rel=>exact ⟨(x5_1),(wrap64 (x6_1 + 1)),(by first|rfl|(simp;done)|(simp [*];done)),H',⟨by have:=HK1.out;omega⟩,⟨by (with_reducible repeat (first|apply Kd.R_alloc|apply Kd.R_drewN|apply Kd.R_drew));exact HO_5.out⟩,⟨by repeat (first|(with_reducible first|exact HB.out|apply below_alloc|apply pw_below_drewN|apply below_drew1)|exact HB.out)⟩⟩
    ·rw [if_neg c6] at H
     exact absurd H (by simp)
   ·rw [if_neg c5] at H
    have c5b0:decide (x6_1 < (l0.length:Int)) = false:=decide_eq_false c5
    clear c5
    obtain rfl:=Option.some.inj H
    go_wp2
    go_ret
    exact ⟨_,by first|rfl|(simp [errW_none,errW_some]<;>rfl)|(simp [*,errW_none,errW_some]<;>rfl),by (with_reducible repeat (first|apply Kd.R_alloc|apply Kd.R_drewN|apply Kd.R_drew));exact HO_5.out,by repeat (first|(with_reducible first|exact HB.out|apply below_alloc|apply pw_below_drewN|apply below_drew1)|exact HB.out)⟩
def garboardref32_other.f (a0_0:Int) (a0_1:Int) (a0_2:Int) (a0_3:Int) (a0_4:ByteArray) (a0_5:ByteArray) (a0_6:ByteArray) (a1:Int):Option (Int):=if a0_1 = a1 then (some a0_2) else (if a0_2 = a1 then (some a0_1) else (some (-1)))
set_option maxHeartbeats 8000000 in
set_option maxRecDepth 100000 in
theorem garboardref32_other.calls (a0_0:Int) (a0_1:Int) (a0_2:Int) (a0_3:Int) (a0_4:ByteArray) (a0_5:ByteArray) (a0_6:ByteArray) (a1:Int) (r:Int) (w:World) (h:garboardref32_other.f a0_0 a0_1 a0_2 a0_3 a0_4 a0_5 a0_6 a1 = some r) :
  Calls Try.prog 84 #[.agg #[.int .i64 a0_0,.int .i64 a0_1,.int .i64 a0_2,.int .i64 a0_3,.string a0_4,.string a0_5,.string a0_6],.int .i64 a1] w fun e w'=>e = .returned (.int .i64 r)∧Below w.heap.size w w':=by
 have hu48:=Try.underlying48
 have HB:=Aside0.mk (Below.refl w.heap.size w)
 have H:(if a0_1 = a1 then (some a0_2) else (if a0_2 = a1 then (some a0_1) else (some (-1)))) = some r:=h
 clear h
 by_cases c3:a0_1 = a1
 ·rw [if_pos c3] at H
  have c3b0:(a0_1 == a1) = true:=beq_iff_eq.mpr c3
  have c3b1:(a0_1 != a1) = false:=bne_eq_false_iff_eq.mpr c3
  clear c3
  obtain rfl:=Option.some.inj H
  go_enter Try.func84,Try.ntmps84
  go_wp2_with (first|((with_reducible refine gate_dst (N:=2) rfl ?_);refine box_event ?hg (N:=2) ?hd (cs:=#[.int .i64 a0_0,.int .i64 a0_1,.int .i64 a0_2,.int .i64 a0_3,.string a0_4,.string a0_5,.string a0_6]) (t:=48) ?hr ?_;(case hd=>rfl);(case hg=>rfl);(case hr=>first|(go_simp;done)|(go_simp;rfl));intro gb273 hg w4 hbox hb;have n0_:=Aside0.mk (below_step (by repeat (first|(with_reducible first|exact HB.out|apply below_alloc|apply pw_below_drewN|apply below_drew1)|exact HB.out)) hb);have n1_:=Aside0.mk (hbox);have n2_:=Aside0.mk ((by rw [hg];exact (below_size (by repeat (first|(with_reducible first|exact HB.out|apply below_alloc|apply pw_below_drewN|apply below_drew1)|exact HB.out))):w.heap.size≤gb273));have n3_:=Aside0.mk ((by rw [hg];exact (below_size (by repeat (first|(with_reducible first|exact HB.out|apply below_alloc|apply pw_below_drewN|apply below_drew1)|exact HB.out))):w.heap.size≤gb273));clear HB;have HB:=n0_;have BK273:=n1_;have GW273:=n2_;have GE273:=n3_;clear n0_ n1_ n2_ n3_;clear hb hbox hg;have hcz5_0:w4.cell? ⟨gb273,0,none⟩ = some (.int .i64 a0_0):=(blk_cell BK273.out 0).trans rfl;have hcz5_1:w4.cell? ⟨gb273,1,none⟩ = some (.int .i64 a0_1):=(blk_cell BK273.out 1).trans rfl;have hcz5_2:w4.cell? ⟨gb273,2,none⟩ = some (.int .i64 a0_2):=(blk_cell BK273.out 2).trans rfl;have hcz5_3:w4.cell? ⟨gb273,3,none⟩ = some (.int .i64 a0_3):=(blk_cell BK273.out 3).trans rfl;have hcz5_4:w4.cell? ⟨gb273,4,none⟩ = some (.string a0_4):=(blk_cell BK273.out 4).trans rfl;have hcz5_5:w4.cell? ⟨gb273,5,none⟩ = some (.string a0_5):=(blk_cell BK273.out 5).trans rfl;have hcz5_6:w4.cell? ⟨gb273,6,none⟩ = some (.string a0_6):=(blk_cell BK273.out 6).trans rfl;have hfz5_0:=blk_frozen BK273.out 0;have hfz5_1:=blk_frozen BK273.out 1;have hfz5_2:=blk_frozen BK273.out 2;have hfz5_3:=blk_frozen BK273.out 3;have hfz5_4:=blk_frozen BK273.out 4;have hfz5_5:=blk_frozen BK273.out 5;have hfz5_6:=blk_frozen BK273.out 6))
  go_ret
  exact ⟨by first|rfl|(simp [errW_none,errW_some]<;>rfl)|(simp [*,errW_none,errW_some]<;>rfl),by repeat (first|(with_reducible first|exact HB.out|apply below_alloc|apply pw_below_drewN|apply below_drew1|refine below_set ?_ GE273.out)|exact HB.out)⟩
 ·rw [if_neg c3] at H
  have c3b0:(a0_1 == a1) = false:=beq_eq_false_iff_ne.mpr c3
  have c3b1:(a0_1 != a1) = true:=bne_iff_ne.mpr c3
  by_cases c6:a0_2 = a1
  ·rw [if_pos c6] at H
   have c6b0:(a0_2 == a1) = true:=beq_iff_eq.mpr c6
   have c6b1:(a0_2 != a1) = false:=bne_eq_false_iff_eq.mpr c6
   clear c6
   obtain rfl:=Option.some.inj H
   go_enter Try.func84,Try.ntmps84
   go_wp2_with (first|((with_reducible refine gate_dst (N:=2) rfl ?_);refine box_event ?hg (N:=2) ?hd (cs:=#[.int .i64 a0_0,.int .i64 a0_1,.int .i64 a0_2,.int .i64 a0_3,.string a0_4,.string a0_5,.string a0_6]) (t:=48) ?hr ?_;(case hd=>rfl);(case hg=>rfl);(case hr=>first|(go_simp;done)|(go_simp;rfl));intro gb273 hg w7 hbox hb;have n0_:=Aside0.mk (below_step (by repeat (first|(with_reducible first|exact HB.out|apply below_alloc|apply pw_below_drewN|apply below_drew1)|exact HB.out)) hb);have n1_:=Aside0.mk (hbox);have n2_:=Aside0.mk ((by rw [hg];exact (below_size (by repeat (first|(with_reducible first|exact HB.out|apply below_alloc|apply pw_below_drewN|apply below_drew1)|exact HB.out))):w.heap.size≤gb273));have n3_:=Aside0.mk ((by rw [hg];exact (below_size (by repeat (first|(with_reducible first|exact HB.out|apply below_alloc|apply pw_below_drewN|apply below_drew1)|exact HB.out))):w.heap.size≤gb273));clear HB;have HB:=n0_;have BK273:=n1_;have GW273:=n2_;have GE273:=n3_;clear n0_ n1_ n2_ n3_;clear hb hbox hg;have hcz8_0:w7.cell? ⟨gb273,0,none⟩ = some (.int .i64 a0_0):=(blk_cell BK273.out 0).trans rfl;have hcz8_1:w7.cell? ⟨gb273,1,none⟩ = some (.int .i64 a0_1):=(blk_cell BK273.out 1).trans rfl;have hcz8_2:w7.cell? ⟨gb273,2,none⟩ = some (.int .i64 a0_2):=(blk_cell BK273.out 2).trans rfl;have hcz8_3:w7.cell? ⟨gb273,3,none⟩ = some (.int .i64 a0_3):=(blk_cell BK273.out 3).trans rfl;have hcz8_4:w7.cell? ⟨gb273,4,none⟩ = some (.string a0_4):=(blk_cell BK273.out 4).trans rfl;have hcz8_5:w7.cell? ⟨gb273,5,none⟩ = some (.string a0_5):=(blk_cell BK273.out 5).trans rfl;have hcz8_6:w7.cell? ⟨gb273,6,none⟩ = some (.string a0_6):=(blk_cell BK273.out 6).trans rfl;have hfz8_0:=blk_frozen BK273.out 0;have hfz8_1:=blk_frozen BK273.out 1;have hfz8_2:=blk_frozen BK273.out 2;have hfz8_3:=blk_frozen BK273.out 3;have hfz8_4:=blk_frozen BK273.out 4;have hfz8_5:=blk_frozen BK273.out 5;have hfz8_6:=blk_frozen BK273.out 6))
   go_ret
   exact ⟨by first|rfl|(simp [errW_none,errW_some]<;>rfl)|(simp [*,errW_none,errW_some]<;>rfl),by repeat (first|(with_reducible first|exact HB.out|apply below_alloc|apply pw_below_drewN|apply below_drew1|refine below_set ?_ GE273.out)|exact HB.out)⟩
  ·rw [if_neg c6] at H
   have c6b0:(a0_2 == a1) = false:=beq_eq_false_iff_ne.mpr c6
   have c6b1:(a0_2 != a1) = true:=bne_iff_ne.mpr c6
   obtain rfl:=Option.some.inj H
   go_enter Try.func84,Try.ntmps84
   go_wp2_with (first|((with_reducible refine gate_dst (N:=2) rfl ?_);refine box_event ?hg (N:=2) ?hd (cs:=#[.int .i64 a0_0,.int .i64 a0_1,.int .i64 a0_2,.int .i64 a0_3,.string a0_4,.string a0_5,.string a0_6]) (t:=48) ?hr ?_;(case hd=>rfl);(case hg=>rfl);(case hr=>first|(go_simp;done)|(go_simp;rfl));intro gb273 hg w9 hbox hb;have n0_:=Aside0.mk (below_step (by repeat (first|(with_reducible first|exact HB.out|apply below_alloc|apply pw_below_drewN|apply below_drew1)|exact HB.out)) hb);have n1_:=Aside0.mk (hbox);have n2_:=Aside0.mk ((by rw [hg];exact (below_size (by repeat (first|(with_reducible first|exact HB.out|apply below_alloc|apply pw_below_drewN|apply below_drew1)|exact HB.out))):w.heap.size≤gb273));have n3_:=Aside0.mk ((by rw [hg];exact (below_size (by repeat (first|(with_reducible first|exact HB.out|apply below_alloc|apply pw_below_drewN|apply below_drew1)|exact HB.out))):w.heap.size≤gb273));clear HB;have HB:=n0_;have BK273:=n1_;have GW273:=n2_;have GE273:=n3_;clear n0_ n1_ n2_ n3_;clear hb hbox hg;have hcz10_0:w9.cell? ⟨gb273,0,none⟩ = some (.int .i64 a0_0):=(blk_cell BK273.out 0).trans rfl;have hcz10_1:w9.cell? ⟨gb273,1,none⟩ = some (.int .i64 a0_1):=(blk_cell BK273.out 1).trans rfl;have hcz10_2:w9.cell? ⟨gb273,2,none⟩ = some (.int .i64 a0_2):=(blk_cell BK273.out 2).trans rfl;have hcz10_3:w9.cell? ⟨gb273,3,none⟩ = some (.int .i64 a0_3):=(blk_cell BK273.out 3).trans rfl;have hcz10_4:w9.cell? ⟨gb273,4,none⟩ = some (.string a0_4):=(blk_cell BK273.out 4).trans rfl;have hcz10_5:w9.cell? ⟨gb273,5,none⟩ = some (.string a0_5):=(blk_cell BK273.out 5).trans rfl;have hcz10_6:w9.cell? ⟨gb273,6,none⟩ = some (.string a0_6):=(blk_cell BK273.out 6).trans rfl;have hfz10_0:=blk_frozen BK273.out 0;have hfz10_1:=blk_frozen BK273.out 1;have hfz10_2:=blk_frozen BK273.out 2;have hfz10_3:=blk_frozen BK273.out 3;have hfz10_4:=blk_frozen BK273.out 4;have hfz10_5:=blk_frozen BK273.out 5;have hfz10_6:=blk_frozen BK273.out 6))
   go_ret
   exact ⟨by first|rfl|(simp [errW_none,errW_some]<;>rfl)|(simp [*,errW_none,errW_some]<;>rfl),by repeat (first|(with_reducible first|exact HB.out|apply below_alloc|apply pw_below_drewN|apply below_drew1|refine below_set ?_ GE273.out)|exact HB.out)⟩
end Go.Proofs.Ytbfmfflhdphohaa.Pr
