/- Part 5 of 5: walks and laws of the functions of chapter 02 (integers as text), which the last part joins; no condition beyond those of the theorem there. The words of the print (W..) are the kit's, cut down by program to what is used here. -/
import Derived.Test.YtaknchlegjcdhaaGreatDoorDz4
namespace Go.Proofs.YtaknchlegjcdhaaGreatDoor.Pr
open Go.RowKit Go.Lib Go.Proofs.YtaknchlegjcdhaaGreatDoorW.PrintWords Go.Proofs.YtaknchlegjcdhaaGreatDoorW.PrintLast Go.Proofs.YtaknchlegjcdhaaGreatDoorW.PrintMore
attribute [local go_sem] max2_int min2_int max_two min_two max_three min_three max_four min_four
set_option maxHeartbeats 8000000
set_option maxRecDepth 100000
set_option linter.unusedVariables false
set_option linter.unusedSimpArgs false
def bezF.T6:Bool × List (List Nat × List Nat):=(true,[([],[]),([0],[0]),([1],[1]),([],[]),([3],[3]),([4,2],[4]),([],[]),([5],[]),([],[]),([],[]),([],[]),([],[]),([8,2,7,0,1,2,8,9,10,11],[2,8]),([9,5,12,0,1,2,3,4,5,8,9,10,11,12],[5,9]),([10,6,13,0,1,2,3,4,5,6,8,9,10,11,12,13],[6,10]),([11,7,14,0,1,2,3,4,5,6,7,8,9,10,11,12,13,14],[7,11])])
def bezF.B6:List Nat:=[0,1,3,0,8,31,0,63,0,0,0,0,4031,8127,16383,32767]
theorem bezF.tab6:rtab .any (opsOf Tryz.f32 6) = bezF.T6:=by kernel_rfl
theorem bezF.bits6:waitsOk bezF.T6.2 bezF.B6 = true:=by kernel_rfl
def bezF.T9:Bool × List (List Nat × List Nat):=(true,[([],[]),([],[]),([],[]),([],[]),([],[]),([],[]),([4,5],[4,5]),([6,6],[6]),([3,7,7],[3,7]),([0,8,0,3],[0]),([1,9,0,1,3,9],[1]),([2,10,0,1,2,3,9,10],[2]),([8,11,0,1,2,3,4,5,6,7,8,9,10,11],[8])])
def bezF.B9:List Nat:=[0,0,0,0,0,0,48,112,248,505,1019,2047,4095]
theorem bezF.tab9:rtab .any (opsOf Tryz.f32 9) = bezF.T9:=by kernel_rfl
theorem bezF.bits9:waitsOk bezF.T9.2 bezF.B9 = true:=by kernel_rfl
def bezF.T12:Bool × List (List Nat × List Nat):=(true,[([],[]),([0],[0]),([1],[1]),([],[]),([2,3,2],[2,3]),([4],[4]),([5],[5]),([5],[5]),([],[]),([],[]),([8,6,4,0,1,2,3,4,5,6,8,9],[6,8]),([9,7,10,0,1,2,3,4,5,6,7,8,9,10],[7,9])])
def bezF.B12:List Nat:=[0,1,3,0,15,31,63,63,0,0,895,2047]
theorem bezF.tab12:rtab .any (opsOf Tryz.f32 12) = bezF.T12:=by kernel_rfl
theorem bezF.bits12:waitsOk bezF.T12.2 bezF.B12 = true:=by kernel_rfl
def bezF.T14:Bool × List (List Nat × List Nat):=(true,[([],[]),([],[]),([],[]),([1,2],[1,2]),([3,3],[3]),([0,4,4],[0,4]),([],[]),([5,6,5],[5,6]),([7],[7]),([8],[8]),([8],[8]),([],[]),([],[]),([11,9,7,0,1,2,3,4,5,6,7,8,9,11,12],[9,11]),([12,10,13,0,1,2,3,4,5,6,7,8,9,10,11,12,13],[10,12])])
def bezF.B14:List Nat:=[0,0,0,6,14,31,0,127,255,511,511,0,0,7167,16383]
theorem bezF.tab14:rtab .any (opsOf Tryz.f32 14) = bezF.T14:=by kernel_rfl
theorem bezF.bits14:waitsOk bezF.T14.2 bezF.B14 = true:=by kernel_rfl
def bezF.T15:Bool × List (List Nat × List Nat):=(true,[([],[]),([0],[0]),([],[]),([2,1],[2]),([],[]),([4,3],[4]),([1,5,0,1],[1]),([3,6,0,1,2,3,6],[3]),([5,7,0,1,2,3,4,5,6,7],[5]),([8,0,1,2,3,4,5,6,7,8],[])])
def bezF.B15:List Nat:=[0,1,0,7,0,31,63,127,255,511]
theorem bezF.tab15:rtab .any (opsOf Tryz.f32 15) = bezF.T15:=by kernel_rfl
theorem bezF.bits15:waitsOk bezF.T15.2 bezF.B15 = true:=by kernel_rfl
theorem bez_main (k:Nat) (a b n1 m1:ByteArray) (n0 m0:Bool) (ra rb rc:ByteArray) (w:World) (hL:LaidW w) (hboth:integer_both.f k a b = some (n0,n1,m0,m1,0)) (hnz:(m0 == false && (m1.toList == ([48]:List UInt8))) = false)
  (h:∃ R0 R1 X0 X1 Y0 Y1,bezL k false n1 false m1 false (⟨#[49]⟩:ByteArray) false (⟨#[48]⟩:ByteArray) = some (R0,R1,X0,X1)∧(if n0 = true then integer_number_opposite.f X0 X1 else some (X0,X1)) = some (Y0,Y1)∧bezT k n0 n1 m0 m1 R0 R1 Y0 Y1 = some (ra,rb,rc)) :
  Calls Tryz.prog 32 #[.string a,.string b] w fun e w'=>e = .returned (.tuple #[.string ra,.string rb,.string rc,.int .i64 0])∧Below w.heap.size w w':=by
 have hu43:=Tryz.underlying43
 have HLW:=Aside0.mk hL
 have HBO:=Aside0.mk hboth
 have HNZ:=Aside0.mk hnz
 have HT:=Aside0.mk h
 clear hL hboth hnz h
 go_enter Tryz.func32,Tryz.ntmps32
 go_upto_region 4 with (first|((with_reducible refine gate_callee (f:=51) rfl ?_);refine gm_ (some 24) Tryz.func51 #[.string a,.string b] ?_;(with_reducible refine (integer_both.calls k a b n0 n1 m0 m1 0 _ HBO.out).mono ?_);rintro e_ wb ⟨rfl,hb⟩;refine ⟨_,rfl,?_⟩;have Z1:=Aside0.mk ((Lies.nil w).step hb);clear hb)|((with_reducible refine gate_dst (N:=8) rfl ?_);refine box_event ?hg (N:=8) ?hd (cs:=#[.bool false,.string (⟨#[]⟩:ByteArray)]) (t:=43) ?hr ?_;(case hd=>rfl);(case hg=>rfl);(case hr=>first|(go_simp;done)|(go_simp;rfl));intro g8 hg wb hbox hb;have Z2:=Aside0.mk (Z1.out.alloc 8 g8 sm_ hg hbox hb);clear hg hbox hb)|((with_reducible refine gate_dst (N:=9) rfl ?_);refine box_event ?hg (N:=9) ?hd (cs:=#[.bool false,.string (⟨#[]⟩:ByteArray)]) (t:=43) ?hr ?_;(case hd=>rfl);(case hg=>rfl);(case hr=>first|(go_simp;done)|(go_simp;rfl));intro g9 hg wb hbox hb;have Z3:=Aside0.mk (Z2.out.alloc 9 g9 sm_ hg hbox hb);clear hg hbox hb)|((with_reducible refine gate_store (t:=43) (p:=8) (v:=.tmp 25) rfl ?_);refine store_row rfl 43 (.tmp 8) (.tmp 25) rfl rfl g8 #[.bool n0,.string n1] rfl rfl 43 _ (Z3.out.at_ ((8,g8,false,(⟨#[]⟩:ByteArray)):Ent) (show ((8,g8,false,(⟨#[]⟩:ByteArray)):Ent) ∈ _ from List.mem_cons_of_mem _ List.mem_cons_self)) kr_ (by rfl) (by simp [Value.oneCell']) ?_;intro w4 hbx hG;have Z4:=Aside0.mk (Z3.out.grown (show ((8,g8,false,(⟨#[]⟩:ByteArray)):Ent) ∈ _ from List.mem_cons_of_mem _ List.mem_cons_self) n0 n1 hbx hG);clear hbx hG)|((with_reducible refine gate_store (t:=43) (p:=9) (v:=.tmp 26) rfl ?_);refine store_row rfl 43 (.tmp 9) (.tmp 26) rfl rfl g9 #[.bool m0,.string m1] rfl rfl 43 _ (Z4.out.at_ ((9,g9,false,(⟨#[]⟩:ByteArray)):Ent) (upd_mem_ne (e:=((9,g9,false,(⟨#[]⟩:ByteArray)):Ent)) List.mem_cons_self sm_ _ _)) kr_ (by rfl) (by simp [Value.oneCell']) ?_;intro w5 hbx hG;have Z5:=Aside0.mk (Z4.out.grown (upd_mem_ne (e:=((9,g9,false,(⟨#[]⟩:ByteArray)):Ent)) List.mem_cons_self sm_ _ _) m0 m1 hbx hG);clear hbx hG))
 have Z:=Aside0.mk (Z5.out.sub (D:=[((8,g8,n0,n1):Ent),((9,g9,m0,m1):Ent)]) (by simp [upd]))
 clear Z1 Z2 Z3 Z4 Z5
 have M8:=Aside0.mk (show ((8,g8,n0,n1):Ent) ∈ [((8,g8,n0,n1):Ent),((9,g9,m0,m1):Ent)] by simp)
 have M9:=Aside0.mk (show ((9,g9,m0,m1):Ent) ∈ [((8,g8,n0,n1):Ent),((9,g9,m0,m1):Ent)] by simp)
 have Zd:=Aside0.mk Z.out.drew
 refine start_ (n:=4) (S:=fun w'=>w'.cell? ⟨g9,0,none⟩ = some (.bool m0)∧w'.cell? ⟨g9,1,none⟩ = some (.string m1)) (ds:=[]) #[false,false,false,false] kr_ rfl rfl ⟨Zd.out.c0 M9.out,Zd.out.c1 M9.out⟩ (fun hHeld=>?_)
 generalize w5.drew = wd at Zd hHeld ⊢
 refine tk2_ 0 (some 33) #[true,false,false,false] hHeld ?_
 refine oc_ 1 (some 34) #[true,true,false,false] Tryz.func59 #[] (fun K hK=>?_)
 with_reducible refine (integer_zero.calls false (⟨#[48]⟩:ByteArray) _ rfl).mono ?_
 rintro e_ w6 ⟨rfl,hb⟩
 refine ⟨_,rfl,?_⟩
 replace Z:=Aside0.mk (Zd.out.step hb)
 clear Zd hb
 refine hK.out _ _ ⟨Z.out.c0 M9.out,Z.out.c1 M9.out⟩ (fun hHeld=>?_)
 clear hK K
 refine norm_ (a':=?_) ?_ ?_
 rotate_left
 ·show Act.put _ (some 34) _ = _
  simp only [Act.put,List.setIfInBounds_toArray,List.set_cons_zero,List.set_cons_succ,i64_w,i32_w]
  rfl
 refine pure_ (i:=2) (N:=some 35) (v:=.bool false) (a':=?_) #[true,true,true,false] rfl rfl kr_ (fun _ _ _ h=>h) (Or.inl ⟨by rfl,?_⟩) ?_ ?_
 ·intro w'
  have hh:=HNZ.out
  go_simp
  first|(with_reducible rfl)|(revert hh;cases m0<;>(try simp)<;>(try (intro h1;simp [h1])))
 rotate_left
 ·simp only [Act.put,List.setIfInBounds_toArray,List.set_cons_zero,List.set_cons_succ,i64_w,i32_w]
  rfl
 refine pure_ (i:=3) (N:=some 32) (v:=.bool false) (a':=?_) #[true,true,true,true] rfl rfl kr_ (fun _ _ _ h=>h) (Or.inl ⟨by rfl,?_⟩) ?_ ?_
 ·intro w'
  go_simp
  try with_reducible rfl
 rotate_left
 ·simp only [Act.put,List.setIfInBounds_toArray,List.set_cons_zero,List.set_cons_succ,i64_w,i32_w]
  rfl
 refine done_ kr_ ?_
 go_upto_region 6 with (fail)
 have N11:=Aside0.mk (show ∀ e ∈ [((8,g8,n0,n1):Ent),((9,g9,m0,m1):Ent)],e.1≠11 by simp)
 have N12:=Aside0.mk (show ∀ e ∈ [((8,g8,n0,n1):Ent),((9,g9,m0,m1):Ent)],e.1≠12 by simp)
 have N13:=Aside0.mk (show ∀ e ∈ [((8,g8,n0,n1):Ent),((9,g9,m0,m1):Ent)],e.1≠13 by simp)
 have N14:=Aside0.mk (show ∀ e ∈ [((8,g8,n0,n1):Ent),((9,g9,m0,m1):Ent)],e.1≠14 by simp)
 have Zd:=Aside0.mk Z.out.drew
 refine start_ (n:=16) (S:=fun w'=>True) (ds:=[]) #[false,false,false,false,false,false,false,false,false,false,false,false,false,false,false,false] kr_ rfl rfl trivial (fun hHeld=>?_)
 refine with_tabW bezF.tab6 bezF.bits6 (fun HT_ HW_=>?_)
 generalize w6.drew = wd at Zd ⊢
 refine inv_at [0,1,2,3,4,5,6,7,8,9,10,11,12,13,14,15] (fun a0_ b a w'=>∃ (E:List Ent) (g11_:Nat) (g12_:Nat) (g13_:Nat) (g14_:Nat) (m8_:Value) (m9_:Value) (m10_:Value) (m11_:Value),a = putSel a0_ b [(0,41,.pointer (some ⟨g8,1,none⟩)),(1,42,.string n1),(2,43,.agg #[.bool false,.string n1]),(3,44,.pointer (some ⟨g9,1,none⟩)),(4,45,.string m1),(5,46,.agg #[.bool false,.string m1]),(6,47,.agg #[.bool false,.string (⟨#[49]⟩:ByteArray)]),(7,48,.agg #[.bool false,.string (⟨#[48]⟩:ByteArray)]),(8,11,m8_),(9,12,m9_),(10,13,m10_),(11,14,m11_)]∧(Lies w w' E)∧(((8,g8,n0,n1):Ent) ∈ E)∧(((9,g9,m0,m1):Ent) ∈ E)∧(b 8 = true→b 12 = false→((11,g11_,false,(⟨#[]⟩:ByteArray)):Ent) ∈ E)∧(b 12 = true→((11,g11_,false,n1):Ent) ∈ E)∧(b 9 = true→b 13 = false→((12,g12_,false,(⟨#[]⟩:ByteArray)):Ent) ∈ E)∧(b 13 = true→((12,g12_,false,m1):Ent) ∈ E)∧(b 10 = true→b 14 = false→((13,g13_,false,(⟨#[]⟩:ByteArray)):Ent) ∈ E)∧(b 14 = true→((13,g13_,false,(⟨#[49]⟩:ByteArray)):Ent) ∈ E)∧(b 11 = true→b 15 = false→((14,g14_,false,(⟨#[]⟩:ByteArray)):Ent) ∈ E)∧(b 15 = true→((14,g14_,false,(⟨#[48]⟩:ByteArray)):Ent) ∈ E)∧(b 8 = false→∀ e ∈ E,e.1≠11)∧(b 9 = false→∀ e ∈ E,e.1≠12)∧(b 10 = false→∀ e ∈ E,e.1≠13)∧(b 11 = false→∀ e ∈ E,e.1≠14)∧(b 8 = true→(m8_:Value) = .pointer (some ⟨g11_,0,none⟩))∧(b 9 = true→(m9_:Value) = .pointer (some ⟨g12_,0,none⟩))∧(b 10 = true→(m10_:Value) = .pointer (some ⟨g13_,0,none⟩))∧(b 11 = true→(m11_:Value) = .pointer (some ⟨g14_,0,none⟩))) HT_.out HW_.out kr_ kr_ ?_ ?_ ?_
 ·exact ⟨[((8,g8,n0,n1):Ent),((9,g9,m0,m1):Ent)],0,0,0,0,.bool false,.bool false,.bool false,.bool false,by simp only [putSel,Bool.false_eq_true,if_false],Zd.out,M8.out,M9.out,fun h_=>absurd h_ de_,fun h_=>absurd h_ de_,fun h_=>absurd h_ de_,fun h_=>absurd h_ de_,fun h_=>absurd h_ de_,fun h_=>absurd h_ de_,fun h_=>absurd h_ de_,fun h_=>absurd h_ de_,fun _=>N11.out,fun _=>N12.out,fun _=>N13.out,fun _=>N14.out,fun h_=>absurd h_ de_,fun h_=>absurd h_ de_,fun h_=>absurd h_ de_,fun h_=>absurd h_ de_⟩
 ·skip
  clear M8 M9 N11 N12 N13 N14 Z
  refine steps_cons ?_ ?_
  ·rintro b a w' ⟨E,g11_,g12_,g13_,g14_,m8_,m9_,m10_,m11_,ha,Q_Z,Q_M8,Q_M9,Q_M11,Q_M11s,Q_M12,Q_M12s,Q_M13,Q_M13s,Q_M14,Q_M14s,Q_N11,Q_N12,Q_N13,Q_N14,Q_X8_,Q_X9_,Q_X10_,Q_X11_⟩ hb_ hon hoff
   refine ⟨_,rfl,fun K hK=>?_⟩
   have e8:a.tmps[8]? = some (.pointer (some ⟨g8,0,none⟩)):=by rw [ha];exact (putSel_off rfl).trans rfl
   replace ha:=Aside0.mk ha
   have Z:=Aside0.mk Q_Z
   have M8:=Aside0.mk Q_M8
   have M9:=Aside0.mk Q_M9
   refine value_ (w1:=w') (v:=.pointer (some ⟨g8,1,none⟩)) (by rfl) rfl ?_ ?_
   ·go_simp
    (try simp only [i64_w])
    try rfl
   refine hK.out _ _ ⟨E,g11_,g12_,g13_,g14_,m8_,m9_,m10_,m11_,(by rw [ha.out];exact putSel_upk 0 hb_ rfl rfl rfl),Q_Z,Q_M8,Q_M9,Q_M11,ab_ (hoff 12 kr_),Q_M12,ab_ (hoff 13 kr_),Q_M13,ab_ (hoff 14 kr_),Q_M14,ab_ (hoff 15 kr_),Q_N11,Q_N12,Q_N13,Q_N14,Q_X8_,Q_X9_,Q_X10_,Q_X11_⟩
  refine steps_cons ?_ ?_
  ·rintro b a w' ⟨E,g11_,g12_,g13_,g14_,m8_,m9_,m10_,m11_,ha,Q_Z,Q_M8,Q_M9,Q_M11,Q_M11s,Q_M12,Q_M12s,Q_M13,Q_M13s,Q_M14,Q_M14s,Q_N11,Q_N12,Q_N13,Q_N14,Q_X8_,Q_X9_,Q_X10_,Q_X11_⟩ hb_ hon hoff
   refine ⟨_,rfl,fun K hK=>?_⟩
   have e41:a.tmps[41]? = some (.pointer (some ⟨g8,1,none⟩)):=by rw [ha];exact putSel_on (e:=(0,41,.pointer (some ⟨g8,1,none⟩))) 0 rfl rfl (hon 0 kr_) rfl
   replace ha:=Aside0.mk ha
   have Z:=Aside0.mk Q_Z
   have M8:=Aside0.mk Q_M8
   have M9:=Aside0.mk Q_M9
   have hc0_:=Z.out.c0 M8.out
   have hc1_:=Z.out.c1 M8.out
   refine value_ (w1:=w') (v:=.string n1) (by rfl) rfl ?_ ?_
   ·go_simp
    (try simp only [i64_w])
    try rfl
   refine hK.out _ _ ⟨E,g11_,g12_,g13_,g14_,m8_,m9_,m10_,m11_,(by rw [ha.out];exact putSel_upk 1 hb_ rfl rfl rfl),Q_Z,Q_M8,Q_M9,Q_M11,ab_ (hoff 12 kr_),Q_M12,ab_ (hoff 13 kr_),Q_M13,ab_ (hoff 14 kr_),Q_M14,ab_ (hoff 15 kr_),Q_N11,Q_N12,Q_N13,Q_N14,Q_X8_,Q_X9_,Q_X10_,Q_X11_⟩
  refine steps_cons ?_ ?_
  ·rintro b a w' ⟨E,g11_,g12_,g13_,g14_,m8_,m9_,m10_,m11_,ha,Q_Z,Q_M8,Q_M9,Q_M11,Q_M11s,Q_M12,Q_M12s,Q_M13,Q_M13s,Q_M14,Q_M14s,Q_N11,Q_N12,Q_N13,Q_N14,Q_X8_,Q_X9_,Q_X10_,Q_X11_⟩ hb_ hon hoff
   refine ⟨_,rfl,fun K hK=>?_⟩
   have e42:a.tmps[42]? = some (.string n1):=by rw [ha];exact putSel_on (e:=(1,42,.string n1)) 1 rfl rfl (hon 1 kr_) rfl
   replace ha:=Aside0.mk ha
   have Z:=Aside0.mk Q_Z
   have M8:=Aside0.mk Q_M8
   have M9:=Aside0.mk Q_M9
   refine goes_ Tryz.func62 kr_ rfl #[.bool false,.string n1] (by rfl) rfl rfl (by first|(simp only [List.map_toArray,List.map_cons,List.map_nil,Act.eval,Array.getD_eq_getD_getElem?,Option.getD_some,e42];done)|(simp only [List.map_toArray,List.map_cons,List.map_nil,Act.eval,Array.getD_eq_getD_getElem?,Option.getD_some,e42];rfl)) ?_
   with_reducible refine (integer_with.calls false n1 false n1 _ rfl).mono ?_
   rintro e_ wb ⟨rfl,hb⟩
   refine ⟨_,rfl,?_⟩
   refine hK.out _ _ ⟨E,g11_,g12_,g13_,g14_,m8_,m9_,m10_,m11_,(by rw [ha.out];exact putSel_upk 2 hb_ rfl rfl rfl),(Z.out.step hb),Q_M8,Q_M9,Q_M11,ab_ (hoff 12 kr_),Q_M12,ab_ (hoff 13 kr_),Q_M13,ab_ (hoff 14 kr_),Q_M14,ab_ (hoff 15 kr_),Q_N11,Q_N12,Q_N13,Q_N14,Q_X8_,Q_X9_,Q_X10_,Q_X11_⟩
  refine steps_cons ?_ ?_
  ·rintro b a w' ⟨E,g11_,g12_,g13_,g14_,m8_,m9_,m10_,m11_,ha,Q_Z,Q_M8,Q_M9,Q_M11,Q_M11s,Q_M12,Q_M12s,Q_M13,Q_M13s,Q_M14,Q_M14s,Q_N11,Q_N12,Q_N13,Q_N14,Q_X8_,Q_X9_,Q_X10_,Q_X11_⟩ hb_ hon hoff
   refine ⟨_,rfl,fun K hK=>?_⟩
   have e9:a.tmps[9]? = some (.pointer (some ⟨g9,0,none⟩)):=by rw [ha];exact (putSel_off rfl).trans rfl
   replace ha:=Aside0.mk ha
   have Z:=Aside0.mk Q_Z
   have M8:=Aside0.mk Q_M8
   have M9:=Aside0.mk Q_M9
   refine value_ (w1:=w') (v:=.pointer (some ⟨g9,1,none⟩)) (by rfl) rfl ?_ ?_
   ·go_simp
    (try simp only [i64_w])
    try rfl
   refine hK.out _ _ ⟨E,g11_,g12_,g13_,g14_,m8_,m9_,m10_,m11_,(by rw [ha.out];exact putSel_upk 3 hb_ rfl rfl rfl),Q_Z,Q_M8,Q_M9,Q_M11,ab_ (hoff 12 kr_),Q_M12,ab_ (hoff 13 kr_),Q_M13,ab_ (hoff 14 kr_),Q_M14,ab_ (hoff 15 kr_),Q_N11,Q_N12,Q_N13,Q_N14,Q_X8_,Q_X9_,Q_X10_,Q_X11_⟩
  refine steps_cons ?_ ?_
  ·rintro b a w' ⟨E,g11_,g12_,g13_,g14_,m8_,m9_,m10_,m11_,ha,Q_Z,Q_M8,Q_M9,Q_M11,Q_M11s,Q_M12,Q_M12s,Q_M13,Q_M13s,Q_M14,Q_M14s,Q_N11,Q_N12,Q_N13,Q_N14,Q_X8_,Q_X9_,Q_X10_,Q_X11_⟩ hb_ hon hoff
   refine ⟨_,rfl,fun K hK=>?_⟩
   have e44:a.tmps[44]? = some (.pointer (some ⟨g9,1,none⟩)):=by rw [ha];exact putSel_on (e:=(3,44,.pointer (some ⟨g9,1,none⟩))) 3 rfl rfl (hon 3 kr_) rfl
   replace ha:=Aside0.mk ha
   have Z:=Aside0.mk Q_Z
   have M8:=Aside0.mk Q_M8
   have M9:=Aside0.mk Q_M9
   have hc0_:=Z.out.c0 M9.out
   have hc1_:=Z.out.c1 M9.out
   refine value_ (w1:=w') (v:=.string m1) (by rfl) rfl ?_ ?_
   ·go_simp
    (try simp only [i64_w])
    try rfl
   refine hK.out _ _ ⟨E,g11_,g12_,g13_,g14_,m8_,m9_,m10_,m11_,(by rw [ha.out];exact putSel_upk 4 hb_ rfl rfl rfl),Q_Z,Q_M8,Q_M9,Q_M11,ab_ (hoff 12 kr_),Q_M12,ab_ (hoff 13 kr_),Q_M13,ab_ (hoff 14 kr_),Q_M14,ab_ (hoff 15 kr_),Q_N11,Q_N12,Q_N13,Q_N14,Q_X8_,Q_X9_,Q_X10_,Q_X11_⟩
  refine steps_cons ?_ ?_
  ·rintro b a w' ⟨E,g11_,g12_,g13_,g14_,m8_,m9_,m10_,m11_,ha,Q_Z,Q_M8,Q_M9,Q_M11,Q_M11s,Q_M12,Q_M12s,Q_M13,Q_M13s,Q_M14,Q_M14s,Q_N11,Q_N12,Q_N13,Q_N14,Q_X8_,Q_X9_,Q_X10_,Q_X11_⟩ hb_ hon hoff
   refine ⟨_,rfl,fun K hK=>?_⟩
   have e45:a.tmps[45]? = some (.string m1):=by rw [ha];exact putSel_on (e:=(4,45,.string m1)) 4 rfl rfl (hon 4 kr_) rfl
   replace ha:=Aside0.mk ha
   have Z:=Aside0.mk Q_Z
   have M8:=Aside0.mk Q_M8
   have M9:=Aside0.mk Q_M9
   refine goes_ Tryz.func62 kr_ rfl #[.bool false,.string m1] (by rfl) rfl rfl (by first|(simp only [List.map_toArray,List.map_cons,List.map_nil,Act.eval,Array.getD_eq_getD_getElem?,Option.getD_some,e45];done)|(simp only [List.map_toArray,List.map_cons,List.map_nil,Act.eval,Array.getD_eq_getD_getElem?,Option.getD_some,e45];rfl)) ?_
   with_reducible refine (integer_with.calls false m1 false m1 _ rfl).mono ?_
   rintro e_ wb ⟨rfl,hb⟩
   refine ⟨_,rfl,?_⟩
   refine hK.out _ _ ⟨E,g11_,g12_,g13_,g14_,m8_,m9_,m10_,m11_,(by rw [ha.out];exact putSel_upk 5 hb_ rfl rfl rfl),(Z.out.step hb),Q_M8,Q_M9,Q_M11,ab_ (hoff 12 kr_),Q_M12,ab_ (hoff 13 kr_),Q_M13,ab_ (hoff 14 kr_),Q_M14,ab_ (hoff 15 kr_),Q_N11,Q_N12,Q_N13,Q_N14,Q_X8_,Q_X9_,Q_X10_,Q_X11_⟩
  refine steps_cons ?_ ?_
  ·rintro b a w' ⟨E,g11_,g12_,g13_,g14_,m8_,m9_,m10_,m11_,ha,Q_Z,Q_M8,Q_M9,Q_M11,Q_M11s,Q_M12,Q_M12s,Q_M13,Q_M13s,Q_M14,Q_M14s,Q_N11,Q_N12,Q_N13,Q_N14,Q_X8_,Q_X9_,Q_X10_,Q_X11_⟩ hb_ hon hoff
   refine ⟨_,rfl,fun K hK=>?_⟩
   replace ha:=Aside0.mk ha
   have Z:=Aside0.mk Q_Z
   have M8:=Aside0.mk Q_M8
   have M9:=Aside0.mk Q_M9
   refine value_ (w1:=w') (v:=.agg #[.bool false,.string (⟨#[49]⟩:ByteArray)]) (by rfl) rfl ?_ ?_
   ·go_simp
    (try simp only [i64_w])
    try rfl
   refine hK.out _ _ ⟨E,g11_,g12_,g13_,g14_,m8_,m9_,m10_,m11_,(by rw [ha.out];exact putSel_upk 6 hb_ rfl rfl rfl),Q_Z,Q_M8,Q_M9,Q_M11,Q_M11s,Q_M12,Q_M12s,Q_M13,ab_ (hoff 14 kr_),Q_M14,ab_ (hoff 15 kr_),Q_N11,Q_N12,Q_N13,Q_N14,Q_X8_,Q_X9_,Q_X10_,Q_X11_⟩
  refine steps_cons ?_ ?_
  ·rintro b a w' ⟨E,g11_,g12_,g13_,g14_,m8_,m9_,m10_,m11_,ha,Q_Z,Q_M8,Q_M9,Q_M11,Q_M11s,Q_M12,Q_M12s,Q_M13,Q_M13s,Q_M14,Q_M14s,Q_N11,Q_N12,Q_N13,Q_N14,Q_X8_,Q_X9_,Q_X10_,Q_X11_⟩ hb_ hon hoff
   refine ⟨_,rfl,fun K hK=>?_⟩
   replace ha:=Aside0.mk ha
   have Z:=Aside0.mk Q_Z
   have M8:=Aside0.mk Q_M8
   have M9:=Aside0.mk Q_M9
   refine goes_ Tryz.func59 kr_ rfl #[] (by rfl) rfl rfl (by first|(simp only [List.map_toArray,List.map_cons,List.map_nil,Act.eval,Array.getD_eq_getD_getElem?,Option.getD_some];done)|(simp only [List.map_toArray,List.map_cons,List.map_nil,Act.eval,Array.getD_eq_getD_getElem?,Option.getD_some];rfl)) ?_
   with_reducible refine (integer_zero.calls false (⟨#[48]⟩:ByteArray) _ rfl).mono ?_
   rintro e_ wb ⟨rfl,hb⟩
   refine ⟨_,rfl,?_⟩
   refine hK.out _ _ ⟨E,g11_,g12_,g13_,g14_,m8_,m9_,m10_,m11_,(by rw [ha.out];exact putSel_upk 7 hb_ rfl rfl rfl),(Z.out.step hb),Q_M8,Q_M9,Q_M11,ab_ (hoff 12 kr_),Q_M12,ab_ (hoff 13 kr_),Q_M13,ab_ (hoff 14 kr_),Q_M14,ab_ (hoff 15 kr_),Q_N11,Q_N12,Q_N13,Q_N14,Q_X8_,Q_X9_,Q_X10_,Q_X11_⟩
  refine steps_cons ?_ ?_
  ·rintro b a w' ⟨E,g11_,g12_,g13_,g14_,m8_,m9_,m10_,m11_,ha,Q_Z,Q_M8,Q_M9,Q_M11,Q_M11s,Q_M12,Q_M12s,Q_M13,Q_M13s,Q_M14,Q_M14s,Q_N11,Q_N12,Q_N13,Q_N14,Q_X8_,Q_X9_,Q_X10_,Q_X11_⟩ hb_ hon hoff
   refine ⟨_,rfl,fun K hK=>?_⟩
   replace ha:=Aside0.mk ha
   have Z:=Aside0.mk Q_Z
   have M8:=Aside0.mk Q_M8
   have M9:=Aside0.mk Q_M9
   have N11:=Aside0.mk (Q_N11 hb_)
   refine box_step ?hg (N:=11) ?hd (cs:=#[.bool false,.string (⟨#[]⟩:ByteArray)]) (t:=43) ?hr ?_
   (case hd=>rfl)
   (case hg=>rfl)
   (case hr=>first|(go_simp;done)|(go_simp;rfl))
   intro gb hg wb hbox hb
   refine hK.out _ _ ⟨((11,gb,false,(⟨#[]⟩:ByteArray)) :: E),gb,g12_,g13_,g14_,(.pointer (some ⟨gb,0,none⟩)),m9_,m10_,m11_,(by rw [ha.out];exact putSel_upk 8 hb_ rfl rfl rfl),(Z.out.alloc 11 gb N11.out hg hbox hb),List.mem_cons_of_mem _ M8.out,List.mem_cons_of_mem _ M9.out,fun _ _=>List.mem_cons_self,ab_ (hoff 12 kr_),fun h0_ h1_=>List.mem_cons_of_mem _ (Q_M12 h0_ h1_),ab_ (hoff 13 kr_),fun h0_ h1_=>List.mem_cons_of_mem _ (Q_M13 h0_ h1_),ab_ (hoff 14 kr_),fun h0_ h1_=>List.mem_cons_of_mem _ (Q_M14 h0_ h1_),ab_ (hoff 15 kr_),fun h0_=>absurd ((up_self b 8).symm.trans h0_) de_,fun h0_=>(fresh_cons de_ (Q_N12 h0_)),fun h0_=>(fresh_cons de_ (Q_N13 h0_)),fun h0_=>(fresh_cons de_ (Q_N14 h0_)),fun _=>rfl,Q_X9_,Q_X10_,Q_X11_⟩
  refine steps_cons ?_ ?_
  ·rintro b a w' ⟨E,g11_,g12_,g13_,g14_,m8_,m9_,m10_,m11_,ha,Q_Z,Q_M8,Q_M9,Q_M11,Q_M11s,Q_M12,Q_M12s,Q_M13,Q_M13s,Q_M14,Q_M14s,Q_N11,Q_N12,Q_N13,Q_N14,Q_X8_,Q_X9_,Q_X10_,Q_X11_⟩ hb_ hon hoff
   refine ⟨_,rfl,fun K hK=>?_⟩
   replace ha:=Aside0.mk ha
   have Z:=Aside0.mk Q_Z
   have M8:=Aside0.mk Q_M8
   have M9:=Aside0.mk Q_M9
   have N12:=Aside0.mk (Q_N12 hb_)
   refine box_step ?hg (N:=12) ?hd (cs:=#[.bool false,.string (⟨#[]⟩:ByteArray)]) (t:=43) ?hr ?_
   (case hd=>rfl)
   (case hg=>rfl)
   (case hr=>first|(go_simp;done)|(go_simp;rfl))
   intro gb hg wb hbox hb
   refine hK.out _ _ ⟨((12,gb,false,(⟨#[]⟩:ByteArray)) :: E),g11_,gb,g13_,g14_,m8_,(.pointer (some ⟨gb,0,none⟩)),m10_,m11_,(by rw [ha.out];exact putSel_upk 9 hb_ rfl rfl rfl),(Z.out.alloc 12 gb N12.out hg hbox hb),List.mem_cons_of_mem _ M8.out,List.mem_cons_of_mem _ M9.out,fun h0_ h1_=>List.mem_cons_of_mem _ (Q_M11 h0_ h1_),ab_ (hoff 12 kr_),fun _ _=>List.mem_cons_self,ab_ (hoff 13 kr_),fun h0_ h1_=>List.mem_cons_of_mem _ (Q_M13 h0_ h1_),ab_ (hoff 14 kr_),fun h0_ h1_=>List.mem_cons_of_mem _ (Q_M14 h0_ h1_),ab_ (hoff 15 kr_),fun h0_=>(fresh_cons de_ (Q_N11 h0_)),fun h0_=>absurd ((up_self b 9).symm.trans h0_) de_,fun h0_=>(fresh_cons de_ (Q_N13 h0_)),fun h0_=>(fresh_cons de_ (Q_N14 h0_)),Q_X8_,fun _=>rfl,Q_X10_,Q_X11_⟩
  refine steps_cons ?_ ?_
  ·rintro b a w' ⟨E,g11_,g12_,g13_,g14_,m8_,m9_,m10_,m11_,ha,Q_Z,Q_M8,Q_M9,Q_M11,Q_M11s,Q_M12,Q_M12s,Q_M13,Q_M13s,Q_M14,Q_M14s,Q_N11,Q_N12,Q_N13,Q_N14,Q_X8_,Q_X9_,Q_X10_,Q_X11_⟩ hb_ hon hoff
   refine ⟨_,rfl,fun K hK=>?_⟩
   replace ha:=Aside0.mk ha
   have Z:=Aside0.mk Q_Z
   have M8:=Aside0.mk Q_M8
   have M9:=Aside0.mk Q_M9
   have N13:=Aside0.mk (Q_N13 hb_)
   refine box_step ?hg (N:=13) ?hd (cs:=#[.bool false,.string (⟨#[]⟩:ByteArray)]) (t:=43) ?hr ?_
   (case hd=>rfl)
   (case hg=>rfl)
   (case hr=>first|(go_simp;done)|(go_simp;rfl))
   intro gb hg wb hbox hb
   refine hK.out _ _ ⟨((13,gb,false,(⟨#[]⟩:ByteArray)) :: E),g11_,g12_,gb,g14_,m8_,m9_,(.pointer (some ⟨gb,0,none⟩)),m11_,(by rw [ha.out];exact putSel_upk 10 hb_ rfl rfl rfl),(Z.out.alloc 13 gb N13.out hg hbox hb),List.mem_cons_of_mem _ M8.out,List.mem_cons_of_mem _ M9.out,fun h0_ h1_=>List.mem_cons_of_mem _ (Q_M11 h0_ h1_),ab_ (hoff 12 kr_),fun h0_ h1_=>List.mem_cons_of_mem _ (Q_M12 h0_ h1_),ab_ (hoff 13 kr_),fun _ _=>List.mem_cons_self,ab_ (hoff 14 kr_),fun h0_ h1_=>List.mem_cons_of_mem _ (Q_M14 h0_ h1_),ab_ (hoff 15 kr_),fun h0_=>(fresh_cons de_ (Q_N11 h0_)),fun h0_=>(fresh_cons de_ (Q_N12 h0_)),fun h0_=>absurd ((up_self b 10).symm.trans h0_) de_,fun h0_=>(fresh_cons de_ (Q_N14 h0_)),Q_X8_,Q_X9_,fun _=>rfl,Q_X11_⟩
  refine steps_cons ?_ ?_
  ·rintro b a w' ⟨E,g11_,g12_,g13_,g14_,m8_,m9_,m10_,m11_,ha,Q_Z,Q_M8,Q_M9,Q_M11,Q_M11s,Q_M12,Q_M12s,Q_M13,Q_M13s,Q_M14,Q_M14s,Q_N11,Q_N12,Q_N13,Q_N14,Q_X8_,Q_X9_,Q_X10_,Q_X11_⟩ hb_ hon hoff
   refine ⟨_,rfl,fun K hK=>?_⟩
   replace ha:=Aside0.mk ha
   have Z:=Aside0.mk Q_Z
   have M8:=Aside0.mk Q_M8
   have M9:=Aside0.mk Q_M9
   have N14:=Aside0.mk (Q_N14 hb_)
   refine box_step ?hg (N:=14) ?hd (cs:=#[.bool false,.string (⟨#[]⟩:ByteArray)]) (t:=43) ?hr ?_
   (case hd=>rfl)
   (case hg=>rfl)
   (case hr=>first|(go_simp;done)|(go_simp;rfl))
   intro gb hg wb hbox hb
   refine hK.out _ _ ⟨((14,gb,false,(⟨#[]⟩:ByteArray)) :: E),g11_,g12_,g13_,gb,m8_,m9_,m10_,(.pointer (some ⟨gb,0,none⟩)),(by rw [ha.out];exact putSel_upk 11 hb_ rfl rfl rfl),(Z.out.alloc 14 gb N14.out hg hbox hb),List.mem_cons_of_mem _ M8.out,List.mem_cons_of_mem _ M9.out,fun h0_ h1_=>List.mem_cons_of_mem _ (Q_M11 h0_ h1_),ab_ (hoff 12 kr_),fun h0_ h1_=>List.mem_cons_of_mem _ (Q_M12 h0_ h1_),ab_ (hoff 13 kr_),fun h0_ h1_=>List.mem_cons_of_mem _ (Q_M13 h0_ h1_),ab_ (hoff 14 kr_),fun _ _=>List.mem_cons_self,ab_ (hoff 15 kr_),fun h0_=>(fresh_cons de_ (Q_N11 h0_)),fun h0_=>(fresh_cons de_ (Q_N12 h0_)),fun h0_=>(fresh_cons de_ (Q_N13 h0_)),fun h0_=>absurd ((up_self b 11).symm.trans h0_) de_,Q_X8_,Q_X9_,Q_X10_,fun _=>rfl⟩
  refine steps_cons ?_ ?_
  ·rintro b a w' ⟨E,g11_,g12_,g13_,g14_,m8_,m9_,m10_,m11_,ha,Q_Z,Q_M8,Q_M9,Q_M11,Q_M11s,Q_M12,Q_M12s,Q_M13,Q_M13s,Q_M14,Q_M14s,Q_N11,Q_N12,Q_N13,Q_N14,Q_X8_,Q_X9_,Q_X10_,Q_X11_⟩ hb_ hon hoff
   refine ⟨_,rfl,fun K hK=>?_⟩
   have e11:a.tmps[11]? = some (m8_):=by rw [ha];exact putSel_on (e:=(8,11,m8_)) 8 rfl rfl (hon 8 kr_) rfl
   rw [Q_X8_ (hon 8 kr_)] at e11
   have e43:a.tmps[43]? = some (.agg #[.bool false,.string n1]):=by rw [ha];exact putSel_on (e:=(2,43,.agg #[.bool false,.string n1])) 2 rfl rfl (hon 2 kr_) rfl
   replace ha:=Aside0.mk ha
   have Z:=Aside0.mk Q_Z
   have M8:=Aside0.mk Q_M8
   have M9:=Aside0.mk Q_M9
   have M11:=Aside0.mk (Q_M11 (hon 8 kr_) hb_)
   have M12:=Aside0.mk (Q_M12 (hon 9 kr_) (hoff 13 kr_))
   have M13:=Aside0.mk (Q_M13 (hon 10 kr_) (hoff 14 kr_))
   have M14:=Aside0.mk (Q_M14 (hon 11 kr_) (hoff 15 kr_))
   have hc0_:=Z.out.c0 M11.out
   have hc1_:=Z.out.c1 M11.out
   have hz0_:=Z.out.z0 M11.out
   have hz1_:=Z.out.z1 M11.out
   refine skip_ (w1:=?_) (by rfl) rfl ?_ ?_
   rotate_left
   ·go_simp
    rfl
   refine hK.out _ _ ⟨upd E 11 false n1,g11_,g12_,g13_,g14_,m8_,m9_,m10_,m11_,(by rw [ha.out];exact putSel_none (v:=undef) rfl),(Z.out.set M11.out false n1),(upd_mem_ne M8.out sm_ _ _),(upd_mem_ne M9.out sm_ _ _),fun _ h1_=>absurd ((up_self b 12).symm.trans h1_) de_,fun _=>(upd_mem M11.out _ _),fun _ _=>(upd_mem_ne M12.out sm_ _ _),ab_ (hoff 13 kr_),fun _ _=>(upd_mem_ne M13.out sm_ _ _),ab_ (hoff 14 kr_),fun _ _=>(upd_mem_ne M14.out sm_ _ _),ab_ (hoff 15 kr_),an_ (hon 8 kr_),an_ (hon 9 kr_),an_ (hon 10 kr_),an_ (hon 11 kr_),Q_X8_,Q_X9_,Q_X10_,Q_X11_⟩
  refine steps_cons ?_ ?_
  ·rintro b a w' ⟨E,g11_,g12_,g13_,g14_,m8_,m9_,m10_,m11_,ha,Q_Z,Q_M8,Q_M9,Q_M11,Q_M11s,Q_M12,Q_M12s,Q_M13,Q_M13s,Q_M14,Q_M14s,Q_N11,Q_N12,Q_N13,Q_N14,Q_X8_,Q_X9_,Q_X10_,Q_X11_⟩ hb_ hon hoff
   refine ⟨_,rfl,fun K hK=>?_⟩
   have e12:a.tmps[12]? = some (m9_):=by rw [ha];exact putSel_on (e:=(9,12,m9_)) 9 rfl rfl (hon 9 kr_) rfl
   rw [Q_X9_ (hon 9 kr_)] at e12
   have e46:a.tmps[46]? = some (.agg #[.bool false,.string m1]):=by rw [ha];exact putSel_on (e:=(5,46,.agg #[.bool false,.string m1])) 5 rfl rfl (hon 5 kr_) rfl
   replace ha:=Aside0.mk ha
   have Z:=Aside0.mk Q_Z
   have M8:=Aside0.mk Q_M8
   have M9:=Aside0.mk Q_M9
   have M11s:=Aside0.mk (Q_M11s (hon 12 kr_))
   have M12:=Aside0.mk (Q_M12 (hon 9 kr_) hb_)
   have M13:=Aside0.mk (Q_M13 (hon 10 kr_) (hoff 14 kr_))
   have M14:=Aside0.mk (Q_M14 (hon 11 kr_) (hoff 15 kr_))
   have hc0_:=Z.out.c0 M12.out
   have hc1_:=Z.out.c1 M12.out
   have hz0_:=Z.out.z0 M12.out
   have hz1_:=Z.out.z1 M12.out
   refine skip_ (w1:=?_) (by rfl) rfl ?_ ?_
   rotate_left
   ·go_simp
    rfl
   refine hK.out _ _ ⟨upd E 12 false m1,g11_,g12_,g13_,g14_,m8_,m9_,m10_,m11_,(by rw [ha.out];exact putSel_none (v:=undef) rfl),(Z.out.set M12.out false m1),(upd_mem_ne M8.out sm_ _ _),(upd_mem_ne M9.out sm_ _ _),fun _ h1_=>absurd ((hon 12 kr_).symm.trans h1_) de_,fun _=>(upd_mem_ne M11s.out sm_ _ _),fun _ h1_=>absurd ((up_self b 13).symm.trans h1_) de_,fun _=>(upd_mem M12.out _ _),fun _ _=>(upd_mem_ne M13.out sm_ _ _),ab_ (hoff 14 kr_),fun _ _=>(upd_mem_ne M14.out sm_ _ _),ab_ (hoff 15 kr_),an_ (hon 8 kr_),an_ (hon 9 kr_),an_ (hon 10 kr_),an_ (hon 11 kr_),Q_X8_,Q_X9_,Q_X10_,Q_X11_⟩
  refine steps_cons ?_ ?_
  ·rintro b a w' ⟨E,g11_,g12_,g13_,g14_,m8_,m9_,m10_,m11_,ha,Q_Z,Q_M8,Q_M9,Q_M11,Q_M11s,Q_M12,Q_M12s,Q_M13,Q_M13s,Q_M14,Q_M14s,Q_N11,Q_N12,Q_N13,Q_N14,Q_X8_,Q_X9_,Q_X10_,Q_X11_⟩ hb_ hon hoff
   refine ⟨_,rfl,fun K hK=>?_⟩
   have e13:a.tmps[13]? = some (m10_):=by rw [ha];exact putSel_on (e:=(10,13,m10_)) 10 rfl rfl (hon 10 kr_) rfl
   rw [Q_X10_ (hon 10 kr_)] at e13
   have e47:a.tmps[47]? = some (.agg #[.bool false,.string (⟨#[49]⟩:ByteArray)]):=by rw [ha];exact putSel_on (e:=(6,47,.agg #[.bool false,.string (⟨#[49]⟩:ByteArray)])) 6 rfl rfl (hon 6 kr_) rfl
   replace ha:=Aside0.mk ha
   have Z:=Aside0.mk Q_Z
   have M8:=Aside0.mk Q_M8
   have M9:=Aside0.mk Q_M9
   have M11s:=Aside0.mk (Q_M11s (hon 12 kr_))
   have M12s:=Aside0.mk (Q_M12s (hon 13 kr_))
   have M13:=Aside0.mk (Q_M13 (hon 10 kr_) hb_)
   have M14:=Aside0.mk (Q_M14 (hon 11 kr_) (hoff 15 kr_))
   have hc0_:=Z.out.c0 M13.out
   have hc1_:=Z.out.c1 M13.out
   have hz0_:=Z.out.z0 M13.out
   have hz1_:=Z.out.z1 M13.out
   refine skip_ (w1:=?_) (by rfl) rfl ?_ ?_
   rotate_left
   ·go_simp
    rfl
   refine hK.out _ _ ⟨upd E 13 false (⟨#[49]⟩:ByteArray),g11_,g12_,g13_,g14_,m8_,m9_,m10_,m11_,(by rw [ha.out];exact putSel_none (v:=undef) rfl),(Z.out.set M13.out false (⟨#[49]⟩:ByteArray)),(upd_mem_ne M8.out sm_ _ _),(upd_mem_ne M9.out sm_ _ _),fun _ h1_=>absurd ((hon 12 kr_).symm.trans h1_) de_,fun _=>(upd_mem_ne M11s.out sm_ _ _),fun _ h1_=>absurd ((hon 13 kr_).symm.trans h1_) de_,fun _=>(upd_mem_ne M12s.out sm_ _ _),fun _ h1_=>absurd ((up_self b 14).symm.trans h1_) de_,fun _=>(upd_mem M13.out _ _),fun _ _=>(upd_mem_ne M14.out sm_ _ _),ab_ (hoff 15 kr_),an_ (hon 8 kr_),an_ (hon 9 kr_),an_ (hon 10 kr_),an_ (hon 11 kr_),Q_X8_,Q_X9_,Q_X10_,Q_X11_⟩
  refine steps_cons ?_ ?_
  ·rintro b a w' ⟨E,g11_,g12_,g13_,g14_,m8_,m9_,m10_,m11_,ha,Q_Z,Q_M8,Q_M9,Q_M11,Q_M11s,Q_M12,Q_M12s,Q_M13,Q_M13s,Q_M14,Q_M14s,Q_N11,Q_N12,Q_N13,Q_N14,Q_X8_,Q_X9_,Q_X10_,Q_X11_⟩ hb_ hon hoff
   refine ⟨_,rfl,fun K hK=>?_⟩
   have e14:a.tmps[14]? = some (m11_):=by rw [ha];exact putSel_on (e:=(11,14,m11_)) 11 rfl rfl (hon 11 kr_) rfl
   rw [Q_X11_ (hon 11 kr_)] at e14
   have e48:a.tmps[48]? = some (.agg #[.bool false,.string (⟨#[48]⟩:ByteArray)]):=by rw [ha];exact putSel_on (e:=(7,48,.agg #[.bool false,.string (⟨#[48]⟩:ByteArray)])) 7 rfl rfl (hon 7 kr_) rfl
   replace ha:=Aside0.mk ha
   have Z:=Aside0.mk Q_Z
   have M8:=Aside0.mk Q_M8
   have M9:=Aside0.mk Q_M9
   have M11s:=Aside0.mk (Q_M11s (hon 12 kr_))
   have M12s:=Aside0.mk (Q_M12s (hon 13 kr_))
   have M13s:=Aside0.mk (Q_M13s (hon 14 kr_))
   have M14:=Aside0.mk (Q_M14 (hon 11 kr_) hb_)
   have hc0_:=Z.out.c0 M14.out
   have hc1_:=Z.out.c1 M14.out
   have hz0_:=Z.out.z0 M14.out
   have hz1_:=Z.out.z1 M14.out
   refine skip_ (w1:=?_) (by rfl) rfl ?_ ?_
   rotate_left
   ·go_simp
    rfl
   refine hK.out _ _ ⟨upd E 14 false (⟨#[48]⟩:ByteArray),g11_,g12_,g13_,g14_,m8_,m9_,m10_,m11_,(by rw [ha.out];exact putSel_none (v:=undef) rfl),(Z.out.set M14.out false (⟨#[48]⟩:ByteArray)),(upd_mem_ne M8.out sm_ _ _),(upd_mem_ne M9.out sm_ _ _),fun _ h1_=>absurd ((hon 12 kr_).symm.trans h1_) de_,fun _=>(upd_mem_ne M11s.out sm_ _ _),fun _ h1_=>absurd ((hon 13 kr_).symm.trans h1_) de_,fun _=>(upd_mem_ne M12s.out sm_ _ _),fun _ h1_=>absurd ((hon 14 kr_).symm.trans h1_) de_,fun _=>(upd_mem_ne M13s.out sm_ _ _),fun _ h1_=>absurd ((up_self b 15).symm.trans h1_) de_,fun _=>(upd_mem M14.out _ _),an_ (hon 8 kr_),an_ (hon 9 kr_),an_ (hon 10 kr_),an_ (hon 11 kr_),Q_X8_,Q_X9_,Q_X10_,Q_X11_⟩
  exact steps_nil
 rintro b a w7 hall ⟨E,g11_,g12_,g13_,g14_,m8_,m9_,m10_,m11_,ha,Q_Z,Q_M8,Q_M9,Q_M11,Q_M11s,Q_M12,Q_M12s,Q_M13,Q_M13s,Q_M14,Q_M14s,Q_N11,Q_N12,Q_N13,Q_N14,Q_X8_,Q_X9_,Q_X10_,Q_X11_⟩
 clear M8 M9 N11 N12 N13 N14 Z
 have hb0_:=hall 0 kr_
 have hb1_:=hall 1 kr_
 have hb2_:=hall 2 kr_
 have hb3_:=hall 3 kr_
 have hb4_:=hall 4 kr_
 have hb5_:=hall 5 kr_
 have hb6_:=hall 6 kr_
 have hb7_:=hall 7 kr_
 have hb8_:=hall 8 kr_
 have hb9_:=hall 9 kr_
 have hb10_:=hall 10 kr_
 have hb11_:=hall 11 kr_
 have hb12_:=hall 12 kr_
 have hb13_:=hall 13 kr_
 have hb14_:=hall 14 kr_
 have hb15_:=hall 15 kr_
 subst ha
 obtain rfl:=Q_X8_ hb8_
 obtain rfl:=Q_X9_ hb9_
 obtain rfl:=Q_X10_ hb10_
 obtain rfl:=Q_X11_ hb11_
 simp only [putSel,hb0_,hb1_,hb2_,hb3_,hb4_,hb5_,hb6_,hb7_,hb8_,hb9_,hb10_,hb11_,hb12_,hb13_,hb14_,hb15_,if_true,Act.put,List.setIfInBounds_toArray,List.set_cons_zero,List.set_cons_succ]
 have Z:=Aside0.mk Q_Z
 clear Q_Z
 have M8:=Aside0.mk Q_M8
 clear Q_M8
 have M9:=Aside0.mk Q_M9
 clear Q_M9
 clear Q_M11
 have M11s:=Aside0.mk (Q_M11s hb12_)
 clear Q_M11s
 clear Q_M12
 have M12s:=Aside0.mk (Q_M12s hb13_)
 clear Q_M12s
 clear Q_M13
 have M13s:=Aside0.mk (Q_M13s hb14_)
 clear Q_M13s
 clear Q_M14
 have M14s:=Aside0.mk (Q_M14s hb15_)
 clear Q_M14s
 clear Q_N11
 clear Q_N12
 clear Q_N13
 clear Q_N14
 clear hall hb0_ hb1_ hb2_ hb3_ hb4_ hb5_ hb6_ hb7_ hb8_ hb9_ hb10_ hb11_ hb12_ hb13_ hb14_ hb15_
 obtain ⟨R0,R1,X0,X1,Y0,Y1,hl1,hl2,hl3⟩:=HT.out
 have HL1:=Aside0.mk hl1
 have HL2:=Aside0.mk hl2
 have HL3:=Aside0.mk hl3
 clear hl1 hl2 hl3 HT
 replace Z:=Aside0.mk (Z.out.sub (D:=[((8,g8,n0,n1):Ent),((9,g9,m0,m1):Ent),((11,g11_,false,n1):Ent),((12,g12_,false,m1):Ent),((13,g13_,false,(⟨#[49]⟩:ByteArray)):Ent),((14,g14_,false,(⟨#[48]⟩:ByteArray)):Ent)]) (by intro e he;simp only [List.mem_cons,List.not_mem_nil,or_false] at he;rcases he with rfl|rfl|rfl|rfl|rfl|rfl<;>(first|exact M8.out|exact M9.out|exact M11s.out|exact M12s.out|exact M13s.out|exact M14s.out)))
 clear M8 M9 M11s M12s M13s M14s
 have M8:=Aside0.mk (show ((8,g8,n0,n1):Ent) ∈ [((8,g8,n0,n1):Ent),((9,g9,m0,m1):Ent),((11,g11_,false,n1):Ent),((12,g12_,false,m1):Ent),((13,g13_,false,(⟨#[49]⟩:ByteArray)):Ent),((14,g14_,false,(⟨#[48]⟩:ByteArray)):Ent)] by simp)
 have M9:=Aside0.mk (show ((9,g9,m0,m1):Ent) ∈ [((8,g8,n0,n1):Ent),((9,g9,m0,m1):Ent),((11,g11_,false,n1):Ent),((12,g12_,false,m1):Ent),((13,g13_,false,(⟨#[49]⟩:ByteArray)):Ent),((14,g14_,false,(⟨#[48]⟩:ByteArray)):Ent)] by simp)
 have M11:=Aside0.mk (show ((11,g11_,false,n1):Ent) ∈ [((8,g8,n0,n1):Ent),((9,g9,m0,m1):Ent),((11,g11_,false,n1):Ent),((12,g12_,false,m1):Ent),((13,g13_,false,(⟨#[49]⟩:ByteArray)):Ent),((14,g14_,false,(⟨#[48]⟩:ByteArray)):Ent)] by simp)
 have M12:=Aside0.mk (show ((12,g12_,false,m1):Ent) ∈ [((8,g8,n0,n1):Ent),((9,g9,m0,m1):Ent),((11,g11_,false,n1):Ent),((12,g12_,false,m1):Ent),((13,g13_,false,(⟨#[49]⟩:ByteArray)):Ent),((14,g14_,false,(⟨#[48]⟩:ByteArray)):Ent)] by simp)
 have M13:=Aside0.mk (show ((13,g13_,false,(⟨#[49]⟩:ByteArray)):Ent) ∈ [((8,g8,n0,n1):Ent),((9,g9,m0,m1):Ent),((11,g11_,false,n1):Ent),((12,g12_,false,m1):Ent),((13,g13_,false,(⟨#[49]⟩:ByteArray)):Ent),((14,g14_,false,(⟨#[48]⟩:ByteArray)):Ent)] by simp)
 have M14:=Aside0.mk (show ((14,g14_,false,(⟨#[48]⟩:ByteArray)):Ent) ∈ [((8,g8,n0,n1):Ent),((9,g9,m0,m1):Ent),((11,g11_,false,n1):Ent),((12,g12_,false,m1):Ent),((13,g13_,false,(⟨#[49]⟩:ByteArray)):Ent),((14,g14_,false,(⟨#[48]⟩:ByteArray)):Ent)] by simp)
 go_wp2
 go_loopg [] k (fun kq wr=>∃ (r0:Bool) (r1:ByteArray) (s0:Bool) (s1:ByteArray) (x0:Bool) (x1:ByteArray) (y0:Bool) (y1:ByteArray),Aside0 (bezL kq r0 r1 s0 s1 x0 x1 y0 y1 = some (R0,R1,X0,X1))∧Aside0 (kq≤k)∧Aside0 (Lies w wr [((8,g8,n0,n1):Ent),((9,g9,m0,m1):Ent),((11,g11_,r0,r1):Ent),((12,g12_,s0,s1):Ent),((13,g13_,x0,x1):Ent),((14,g14_,y0,y1):Ent)]))
 case atStart=>exact ⟨false,n1,false,m1,false,(⟨#[49]⟩:ByteArray),false,(⟨#[48]⟩:ByteArray),HL1,⟨Nat.le_refl _⟩,Z⟩
 case round =>
  clear Z HL1 M8 M9 M11 M12 M13 M14
  obtain ⟨r0,r1,s0,s1,x0,x1,y0,y1,HA,HK,Z⟩:=hrel
  cases gk with
  | zero=>exact absurd HA.out (by simp [bezL])
  | succ kk =>
   have M8:=Aside0.mk (show ((8,g8,n0,n1):Ent) ∈ [((8,g8,n0,n1):Ent),((9,g9,m0,m1):Ent),((11,g11_,r0,r1):Ent),((12,g12_,s0,s1):Ent),((13,g13_,x0,x1):Ent),((14,g14_,y0,y1):Ent)] by simp)
   have M9:=Aside0.mk (show ((9,g9,m0,m1):Ent) ∈ [((8,g8,n0,n1):Ent),((9,g9,m0,m1):Ent),((11,g11_,r0,r1):Ent),((12,g12_,s0,s1):Ent),((13,g13_,x0,x1):Ent),((14,g14_,y0,y1):Ent)] by simp)
   have M11:=Aside0.mk (show ((11,g11_,r0,r1):Ent) ∈ [((8,g8,n0,n1):Ent),((9,g9,m0,m1):Ent),((11,g11_,r0,r1):Ent),((12,g12_,s0,s1):Ent),((13,g13_,x0,x1):Ent),((14,g14_,y0,y1):Ent)] by simp)
   have M12:=Aside0.mk (show ((12,g12_,s0,s1):Ent) ∈ [((8,g8,n0,n1):Ent),((9,g9,m0,m1):Ent),((11,g11_,r0,r1):Ent),((12,g12_,s0,s1):Ent),((13,g13_,x0,x1):Ent),((14,g14_,y0,y1):Ent)] by simp)
   have M13:=Aside0.mk (show ((13,g13_,x0,x1):Ent) ∈ [((8,g8,n0,n1):Ent),((9,g9,m0,m1):Ent),((11,g11_,r0,r1):Ent),((12,g12_,s0,s1):Ent),((13,g13_,x0,x1):Ent),((14,g14_,y0,y1):Ent)] by simp)
   have M14:=Aside0.mk (show ((14,g14_,y0,y1):Ent) ∈ [((8,g8,n0,n1):Ent),((9,g9,m0,m1):Ent),((11,g11_,r0,r1):Ent),((12,g12_,s0,s1):Ent),((13,g13_,x0,x1):Ent),((14,g14_,y0,y1):Ent)] by simp)
   have H:=HA.out
   clear HA
   simp only [bezL] at H
   by_cases c:(s0 == false && (s1.toList == ([48]:List UInt8))) = true
   ·rw [if_pos c] at H
    simp only [Option.some.injEq,Prod.mk.injEq] at H
    obtain ⟨h1,h2,h3,h4⟩:=H
    subst h1
    subst h2
    subst h3
    subst h4
    have HC:=Aside0.mk c
    clear c
    go_upto_region 7 with (fail)
    have Zd:=Aside0.mk Z.out.drew
    refine start_ (n:=3) (S:=fun w'=>w'.cell? ⟨g12_,0,none⟩ = some (.bool s0)∧w'.cell? ⟨g12_,1,none⟩ = some (.string s1)) (ds:=[]) #[false,false,false] kr_ rfl rfl ⟨Zd.out.c0 M12.out,Zd.out.c1 M12.out⟩ (fun hHeld=>?_)
    generalize wr.drew = wd at Zd hHeld ⊢
    refine tk2_ 0 (some 49) #[true,false,false] hHeld ?_
    refine oc_ 1 (some 50) #[true,true,false] Tryz.func59 #[] (fun K hK=>?_)
    with_reducible refine (integer_zero.calls false (⟨#[48]⟩:ByteArray) _ rfl).mono ?_
    rintro e_ w8 ⟨rfl,hb⟩
    refine ⟨_,rfl,?_⟩
    replace Z:=Aside0.mk (Zd.out.step hb)
    clear Zd hb
    refine hK.out _ _ ⟨Z.out.c0 M12.out,Z.out.c1 M12.out⟩ (fun hHeld=>?_)
    clear hK K
    refine norm_ (a':=?_) ?_ ?_
    rotate_left
    ·show Act.put _ (some 50) _ = _
     simp only [Act.put,List.setIfInBounds_toArray,List.set_cons_zero,List.set_cons_succ,i64_w,i32_w]
     rfl
    refine pure_ (i:=2) (N:=some 51) (v:=.bool false) (a':=?_) #[true,true,true] rfl rfl kr_ (fun _ _ _ h=>h) (Or.inl ⟨by rfl,?_⟩) ?_ ?_
    ·intro w'
     have hh:=HC.out
     go_simp
     first|(with_reducible rfl)|(revert hh;cases s0<;>(try simp)<;>(try (intro h1;simp [h1])))
    rotate_left
    ·simp only [Act.put,List.setIfInBounds_toArray,List.set_cons_zero,List.set_cons_succ,i64_w,i32_w]
     rfl
    refine done_ kr_ ?_
    have k0:=Z.out.c0 M8.out
    go_upto_if 68 with (fail)
    go_cut [] (fun wc=>Aside0 (Lies w wc [((8,g8,n0,n1):Ent),((9,g9,m0,m1):Ent),((11,g11_,r0,r1):Ent),((12,g12_,s0,s1):Ent),((13,g13_,Y0,Y1):Ent),((14,g14_,y0,y1):Ent)]))
    case first =>
     have k1:=Z.out.c0 M13.out
     have k2:=Z.out.c1 M13.out
     cases n0 with
     | true =>
      have HO:=Aside0.mk ((if_pos rfl).symm.trans HL2.out)
      go_wp2_with (first|((with_reducible refine gate_callee (f:=45) rfl ?_);refine gm_ (some 70) Tryz.func45 #[.agg #[.bool x0,.string x1]] ?_;(with_reducible refine (integer_number_opposite.calls x0 x1 Y0 Y1 _ HO.out).mono ?_);rintro e_ wb ⟨rfl,hb⟩;refine ⟨_,rfl,?_⟩;have Za:=Aside0.mk (Z.out.step hb);clear hb)|((with_reducible refine gate_store (t:=43) (p:=13) (v:=.tmp 70) rfl ?_);refine store_row rfl 43 (.tmp 13) (.tmp 70) rfl rfl g13_ #[.bool Y0,.string Y1] rfl rfl 43 _ (Za.out.at_ ((13,g13_,x0,x1):Ent) (show ((13,g13_,x0,x1):Ent) ∈ _ from M13.out)) kr_ (by rfl) (by simp [Value.oneCell']) ?_;intro w9 hbx hG;have Zb:=Aside0.mk (Za.out.grown (show ((13,g13_,x0,x1):Ent) ∈ _ from M13.out) Y0 Y1 hbx hG);clear hbx hG))
      go_meet
      have L8:=Aside0.mk (upd_mem_ne M8.out sm_ Y0 Y1 (k:=13))
      have L9:=Aside0.mk (upd_mem_ne M9.out sm_ Y0 Y1 (k:=13))
      have L11:=Aside0.mk (upd_mem_ne M11.out sm_ Y0 Y1 (k:=13))
      have L12:=Aside0.mk (upd_mem_ne M12.out sm_ Y0 Y1 (k:=13))
      have L14:=Aside0.mk (upd_mem_ne M14.out sm_ Y0 Y1 (k:=13))
      have L13:=Aside0.mk (upd_mem M13.out Y0 Y1)
      case rel=>exact ⟨(Zb.out.sub (D:=[((8,g8,true,n1):Ent),((9,g9,m0,m1):Ent),((11,g11_,r0,r1):Ent),((12,g12_,s0,s1):Ent),((13,g13_,Y0,Y1):Ent),((14,g14_,y0,y1):Ent)]) (by intro e he;simp only [List.mem_cons,List.not_mem_nil,or_false] at he;rcases he with rfl|rfl|rfl|rfl|rfl|rfl<;>(first|exact L8.out|exact L9.out|exact L11.out|exact L12.out|exact L13.out|exact L14.out)))⟩
     | false =>
      have h5:=(if_neg de_).symm.trans HL2.out
      simp only [Option.some.injEq,Prod.mk.injEq] at h5
      obtain ⟨h6,h7⟩:=h5
      subst h6
      subst h7
      go_wp2
      go_meet
      case rel=>exact Z
    case rest =>
     clear Z HL2 M8 M9 M11 M12 M13 M14
     replace Z:=hcut
     clear hcut
     have M8:=Aside0.mk (show ((8,g8,n0,n1):Ent) ∈ [((8,g8,n0,n1):Ent),((9,g9,m0,m1):Ent),((11,g11_,r0,r1):Ent),((12,g12_,s0,s1):Ent),((13,g13_,Y0,Y1):Ent),((14,g14_,y0,y1):Ent)] by simp)
     have M9:=Aside0.mk (show ((9,g9,m0,m1):Ent) ∈ [((8,g8,n0,n1):Ent),((9,g9,m0,m1):Ent),((11,g11_,r0,r1):Ent),((12,g12_,s0,s1):Ent),((13,g13_,Y0,Y1):Ent),((14,g14_,y0,y1):Ent)] by simp)
     have M11:=Aside0.mk (show ((11,g11_,r0,r1):Ent) ∈ [((8,g8,n0,n1):Ent),((9,g9,m0,m1):Ent),((11,g11_,r0,r1):Ent),((12,g12_,s0,s1):Ent),((13,g13_,Y0,Y1):Ent),((14,g14_,y0,y1):Ent)] by simp)
     have M12:=Aside0.mk (show ((12,g12_,s0,s1):Ent) ∈ [((8,g8,n0,n1):Ent),((9,g9,m0,m1):Ent),((11,g11_,r0,r1):Ent),((12,g12_,s0,s1):Ent),((13,g13_,Y0,Y1):Ent),((14,g14_,y0,y1):Ent)] by simp)
     have M13:=Aside0.mk (show ((13,g13_,Y0,Y1):Ent) ∈ [((8,g8,n0,n1):Ent),((9,g9,m0,m1):Ent),((11,g11_,r0,r1):Ent),((12,g12_,s0,s1):Ent),((13,g13_,Y0,Y1):Ent),((14,g14_,y0,y1):Ent)] by simp)
     have M14:=Aside0.mk (show ((14,g14_,y0,y1):Ent) ∈ [((8,g8,n0,n1):Ent),((9,g9,m0,m1):Ent),((11,g11_,r0,r1):Ent),((12,g12_,s0,s1):Ent),((13,g13_,Y0,Y1):Ent),((14,g14_,y0,y1):Ent)] by simp)
     have h:=HL3.out
     simp only [bezT] at h
     obtain ⟨⟨d0,d1⟩,Ad,h⟩:=Option.bind_eq_some_iff.mp h
     have Hd:=Aside0.mk Ad
     clear Ad
     obtain ⟨⟨p0,p1,pr0,pr1⟩,Ap,h⟩:=Option.bind_eq_some_iff.mp h
     have Hp:=Aside0.mk Ap
     clear Ap
     obtain ⟨⟨q0,q1,x2,x3⟩,Aq,h⟩:=Option.bind_eq_some_iff.mp h
     have Hq:=Aside0.mk Aq
     clear Aq
     obtain ⟨⟨t0,t1⟩,At,h⟩:=Option.bind_eq_some_iff.mp h
     have Ht:=Aside0.mk At
     clear At
     obtain ⟨⟨o0,o1⟩,Ao,h⟩:=Option.bind_eq_some_iff.mp h
     have Ho:=Aside0.mk Ao
     clear Ao
     obtain ⟨⟨u0,u1⟩,Au,h⟩:=Option.bind_eq_some_iff.mp h
     have Hu:=Aside0.mk Au
     clear Au
     obtain ⟨⟨z0,z1,zr0,zr1⟩,Az,h⟩:=Option.bind_eq_some_iff.mp h
     have Hz:=Aside0.mk Az
     clear Az
     obtain ⟨ta,Ata,h⟩:=Option.bind_eq_some_iff.mp h
     have Hta:=Aside0.mk Ata
     clear Ata
     obtain ⟨tb,Atb,h⟩:=Option.bind_eq_some_iff.mp h
     have Htb:=Aside0.mk Atb
     clear Atb
     obtain ⟨tc,Atc,h⟩:=Option.bind_eq_some_iff.mp h
     have Htc:=Aside0.mk Atc
     clear Atc
     simp only [Option.some.injEq,Prod.mk.injEq] at h
     obtain ⟨e1,e2,e3⟩:=h
     subst e1
     subst e2
     subst e3
     obtain ⟨h6,h7⟩:=Prod.mk.inj (Option.some.inj (show some (false,m1) = some (d0,d1) from Hd.out))
     subst h6
     subst h7
     try go_wp2
     have N17:=Aside0.mk (show ∀ e ∈ [((8,g8,n0,n1):Ent),((9,g9,m0,m1):Ent),((11,g11_,r0,r1):Ent),((12,g12_,s0,s1):Ent),((13,g13_,Y0,Y1):Ent),((14,g14_,y0,y1):Ent)],e.1≠17 by simp)
     have N18:=Aside0.mk (show ∀ e ∈ [((8,g8,n0,n1):Ent),((9,g9,m0,m1):Ent),((11,g11_,r0,r1):Ent),((12,g12_,s0,s1):Ent),((13,g13_,Y0,Y1):Ent),((14,g14_,y0,y1):Ent)],e.1≠18 by simp)
     have Zd:=Aside0.mk Z.out.drew
     refine start_ (n:=12) (S:=fun w'=>True) (ds:=[]) #[false,false,false,false,false,false,false,false,false,false,false,false] kr_ rfl rfl trivial (fun hHeld=>?_)
     refine with_tabW bezF.tab12 bezF.bits12 (fun HT_ HW_=>?_)
     generalize wc.drew = wd at Zd ⊢
     refine inv_at [0,1,2,3,4,5,6,7,8,9,10,11] (fun a0_ b a w'=>∃ (E:List Ent) (g17_:Nat) (g18_:Nat) (m8_:Value) (m9_:Value),a = putSel a0_ b [(0,72,.pointer (some ⟨g9,1,none⟩)),(1,73,.string m1),(2,74,.agg #[.bool false,.string m1]),(3,75,.agg #[.bool r0,.string r1]),(4,76,.tuple #[.agg #[.bool p0,.string p1],.agg #[.bool pr0,.string pr1]]),(5,71,.tuple #[.agg #[.bool p0,.string p1],.agg #[.bool pr0,.string pr1]]),(6,77,.agg #[.bool p0,.string p1]),(7,78,.agg #[.bool pr0,.string pr1]),(8,17,m8_),(9,18,m9_)]∧(Lies w w' E)∧(((8,g8,n0,n1):Ent) ∈ E)∧(((9,g9,m0,m1):Ent) ∈ E)∧(((11,g11_,r0,r1):Ent) ∈ E)∧(((12,g12_,s0,s1):Ent) ∈ E)∧(((13,g13_,Y0,Y1):Ent) ∈ E)∧(((14,g14_,y0,y1):Ent) ∈ E)∧(b 8 = true→b 10 = false→((17,g17_,false,(⟨#[]⟩:ByteArray)):Ent) ∈ E)∧(b 10 = true→((17,g17_,p0,p1):Ent) ∈ E)∧(b 9 = true→b 11 = false→((18,g18_,false,(⟨#[]⟩:ByteArray)):Ent) ∈ E)∧(b 11 = true→((18,g18_,pr0,pr1):Ent) ∈ E)∧(b 8 = false→∀ e ∈ E,e.1≠17)∧(b 9 = false→∀ e ∈ E,e.1≠18)∧(b 8 = true→(m8_:Value) = .pointer (some ⟨g17_,0,none⟩))∧(b 9 = true→(m9_:Value) = .pointer (some ⟨g18_,0,none⟩))) HT_.out HW_.out kr_ kr_ ?_ ?_ ?_
     ·exact ⟨[((8,g8,n0,n1):Ent),((9,g9,m0,m1):Ent),((11,g11_,r0,r1):Ent),((12,g12_,s0,s1):Ent),((13,g13_,Y0,Y1):Ent),((14,g14_,y0,y1):Ent)],0,0,.bool false,.bool false,by simp only [putSel,Bool.false_eq_true,if_false],Zd.out,M8.out,M9.out,M11.out,M12.out,M13.out,M14.out,fun h_=>absurd h_ de_,fun h_=>absurd h_ de_,fun h_=>absurd h_ de_,fun h_=>absurd h_ de_,fun _=>N17.out,fun _=>N18.out,fun h_=>absurd h_ de_,fun h_=>absurd h_ de_⟩
     ·skip
      clear M11 M12 M13 M14 M8 M9 N17 N18 Z
      refine steps_cons ?_ ?_
      ·rintro b a w' ⟨E,g17_,g18_,m8_,m9_,ha,Q_Z,Q_M8,Q_M9,Q_M11,Q_M12,Q_M13,Q_M14,Q_M17,Q_M17s,Q_M18,Q_M18s,Q_N17,Q_N18,Q_X8_,Q_X9_⟩ hb_ hon hoff
       refine ⟨_,rfl,fun K hK=>?_⟩
       have e9:a.tmps[9]? = some (.pointer (some ⟨g9,0,none⟩)):=by rw [ha];exact (putSel_off rfl).trans rfl
       replace ha:=Aside0.mk ha
       have Z:=Aside0.mk Q_Z
       have M8:=Aside0.mk Q_M8
       have M9:=Aside0.mk Q_M9
       have M11:=Aside0.mk Q_M11
       have M12:=Aside0.mk Q_M12
       have M13:=Aside0.mk Q_M13
       have M14:=Aside0.mk Q_M14
       refine value_ (w1:=w') (v:=.pointer (some ⟨g9,1,none⟩)) (by rfl) rfl ?_ ?_
       ·go_simp
        (try simp only [i64_w])
        try rfl
       refine hK.out _ _ ⟨E,g17_,g18_,m8_,m9_,(by rw [ha.out];exact putSel_upk 0 hb_ rfl rfl rfl),Q_Z,Q_M8,Q_M9,Q_M11,Q_M12,Q_M13,Q_M14,Q_M17,ab_ (hoff 10 kr_),Q_M18,ab_ (hoff 11 kr_),Q_N17,Q_N18,Q_X8_,Q_X9_⟩
      refine steps_cons ?_ ?_
      ·rintro b a w' ⟨E,g17_,g18_,m8_,m9_,ha,Q_Z,Q_M8,Q_M9,Q_M11,Q_M12,Q_M13,Q_M14,Q_M17,Q_M17s,Q_M18,Q_M18s,Q_N17,Q_N18,Q_X8_,Q_X9_⟩ hb_ hon hoff
       refine ⟨_,rfl,fun K hK=>?_⟩
       have e72:a.tmps[72]? = some (.pointer (some ⟨g9,1,none⟩)):=by rw [ha];exact putSel_on (e:=(0,72,.pointer (some ⟨g9,1,none⟩))) 0 rfl rfl (hon 0 kr_) rfl
       replace ha:=Aside0.mk ha
       have Z:=Aside0.mk Q_Z
       have M8:=Aside0.mk Q_M8
       have M9:=Aside0.mk Q_M9
       have M11:=Aside0.mk Q_M11
       have M12:=Aside0.mk Q_M12
       have M13:=Aside0.mk Q_M13
       have M14:=Aside0.mk Q_M14
       have hc0_:=Z.out.c0 M9.out
       have hc1_:=Z.out.c1 M9.out
       refine value_ (w1:=w') (v:=.string m1) (by rfl) rfl ?_ ?_
       ·go_simp
        (try simp only [i64_w])
        try rfl
       refine hK.out _ _ ⟨E,g17_,g18_,m8_,m9_,(by rw [ha.out];exact putSel_upk 1 hb_ rfl rfl rfl),Q_Z,Q_M8,Q_M9,Q_M11,Q_M12,Q_M13,Q_M14,Q_M17,ab_ (hoff 10 kr_),Q_M18,ab_ (hoff 11 kr_),Q_N17,Q_N18,Q_X8_,Q_X9_⟩
      refine steps_cons ?_ ?_
      ·rintro b a w' ⟨E,g17_,g18_,m8_,m9_,ha,Q_Z,Q_M8,Q_M9,Q_M11,Q_M12,Q_M13,Q_M14,Q_M17,Q_M17s,Q_M18,Q_M18s,Q_N17,Q_N18,Q_X8_,Q_X9_⟩ hb_ hon hoff
       refine ⟨_,rfl,fun K hK=>?_⟩
       have e73:a.tmps[73]? = some (.string m1):=by rw [ha];exact putSel_on (e:=(1,73,.string m1)) 1 rfl rfl (hon 1 kr_) rfl
       replace ha:=Aside0.mk ha
       have Z:=Aside0.mk Q_Z
       have M8:=Aside0.mk Q_M8
       have M9:=Aside0.mk Q_M9
       have M11:=Aside0.mk Q_M11
       have M12:=Aside0.mk Q_M12
       have M13:=Aside0.mk Q_M13
       have M14:=Aside0.mk Q_M14
       refine goes_ Tryz.func62 kr_ rfl #[.bool false,.string m1] (by rfl) rfl rfl (by first|(simp only [List.map_toArray,List.map_cons,List.map_nil,Act.eval,Array.getD_eq_getD_getElem?,Option.getD_some,e73];done)|(simp only [List.map_toArray,List.map_cons,List.map_nil,Act.eval,Array.getD_eq_getD_getElem?,Option.getD_some,e73];rfl)) ?_
       with_reducible refine (integer_with.calls false m1 false m1 _ rfl).mono ?_
       rintro e_ wb ⟨rfl,hb⟩
       refine ⟨_,rfl,?_⟩
       refine hK.out _ _ ⟨E,g17_,g18_,m8_,m9_,(by rw [ha.out];exact putSel_upk 2 hb_ rfl rfl rfl),(Z.out.step hb),Q_M8,Q_M9,Q_M11,Q_M12,Q_M13,Q_M14,Q_M17,ab_ (hoff 10 kr_),Q_M18,ab_ (hoff 11 kr_),Q_N17,Q_N18,Q_X8_,Q_X9_⟩
      refine steps_cons ?_ ?_
      ·rintro b a w' ⟨E,g17_,g18_,m8_,m9_,ha,Q_Z,Q_M8,Q_M9,Q_M11,Q_M12,Q_M13,Q_M14,Q_M17,Q_M17s,Q_M18,Q_M18s,Q_N17,Q_N18,Q_X8_,Q_X9_⟩ hb_ hon hoff
       refine ⟨_,rfl,fun K hK=>?_⟩
       have e11:a.tmps[11]? = some (.pointer (some ⟨g11_,0,none⟩)):=by rw [ha];exact (putSel_off rfl).trans rfl
       replace ha:=Aside0.mk ha
       have Z:=Aside0.mk Q_Z
       have M8:=Aside0.mk Q_M8
       have M9:=Aside0.mk Q_M9
       have M11:=Aside0.mk Q_M11
       have M12:=Aside0.mk Q_M12
       have M13:=Aside0.mk Q_M13
       have M14:=Aside0.mk Q_M14
       have hc0_:=Z.out.c0 M11.out
       have hc1_:=Z.out.c1 M11.out
       refine value_ (w1:=w') (v:=.agg #[.bool r0,.string r1]) (by rfl) rfl ?_ ?_
       ·go_simp
        (try simp only [i64_w])
        try rfl
       refine hK.out _ _ ⟨E,g17_,g18_,m8_,m9_,(by rw [ha.out];exact putSel_upk 3 hb_ rfl rfl rfl),Q_Z,Q_M8,Q_M9,Q_M11,Q_M12,Q_M13,Q_M14,Q_M17,ab_ (hoff 10 kr_),Q_M18,ab_ (hoff 11 kr_),Q_N17,Q_N18,Q_X8_,Q_X9_⟩
      refine steps_cons ?_ ?_
      ·rintro b a w' ⟨E,g17_,g18_,m8_,m9_,ha,Q_Z,Q_M8,Q_M9,Q_M11,Q_M12,Q_M13,Q_M14,Q_M17,Q_M17s,Q_M18,Q_M18s,Q_N17,Q_N18,Q_X8_,Q_X9_⟩ hb_ hon hoff
       refine ⟨_,rfl,fun K hK=>?_⟩
       have e74:a.tmps[74]? = some (.agg #[.bool false,.string m1]):=by rw [ha];exact putSel_on (e:=(2,74,.agg #[.bool false,.string m1])) 2 rfl rfl (hon 2 kr_) rfl
       have e75:a.tmps[75]? = some (.agg #[.bool r0,.string r1]):=by rw [ha];exact putSel_on (e:=(3,75,.agg #[.bool r0,.string r1])) 3 rfl rfl (hon 3 kr_) rfl
       replace ha:=Aside0.mk ha
       have Z:=Aside0.mk Q_Z
       have M8:=Aside0.mk Q_M8
       have M9:=Aside0.mk Q_M9
       have M11:=Aside0.mk Q_M11
       have M12:=Aside0.mk Q_M12
       have M13:=Aside0.mk Q_M13
       have M14:=Aside0.mk Q_M14
       refine goes_ Tryz.func60 kr_ rfl #[.agg #[.bool false,.string m1],.agg #[.bool r0,.string r1]] (by rfl) rfl rfl (by first|(simp only [List.map_toArray,List.map_cons,List.map_nil,Act.eval,Array.getD_eq_getD_getElem?,Option.getD_some,e74,e75];done)|(simp only [List.map_toArray,List.map_cons,List.map_nil,Act.eval,Array.getD_eq_getD_getElem?,Option.getD_some,e74,e75];rfl)) ?_
       with_reducible refine (integer_number_divide.calls k false m1 r0 r1 p0 p1 pr0 pr1 _ (HLW.out.below Z.out.bel) Hp.out).mono ?_
       rintro e_ wb ⟨rfl,hb⟩
       refine ⟨_,rfl,?_⟩
       refine hK.out _ _ ⟨E,g17_,g18_,m8_,m9_,(by rw [ha.out];exact putSel_upk 4 hb_ rfl rfl rfl),(Z.out.step hb),Q_M8,Q_M9,Q_M11,Q_M12,Q_M13,Q_M14,Q_M17,ab_ (hoff 10 kr_),Q_M18,ab_ (hoff 11 kr_),Q_N17,Q_N18,Q_X8_,Q_X9_⟩
      refine steps_cons ?_ ?_
      ·rintro b a w' ⟨E,g17_,g18_,m8_,m9_,ha,Q_Z,Q_M8,Q_M9,Q_M11,Q_M12,Q_M13,Q_M14,Q_M17,Q_M17s,Q_M18,Q_M18s,Q_N17,Q_N18,Q_X8_,Q_X9_⟩ hb_ hon hoff
       refine ⟨_,rfl,fun K hK=>?_⟩
       have e76:a.tmps[76]? = some (.tuple #[.agg #[.bool p0,.string p1],.agg #[.bool pr0,.string pr1]]):=by rw [ha];exact putSel_on (e:=(4,76,.tuple #[.agg #[.bool p0,.string p1],.agg #[.bool pr0,.string pr1]])) 4 rfl rfl (hon 4 kr_) rfl
       replace ha:=Aside0.mk ha
       have Z:=Aside0.mk Q_Z
       have M8:=Aside0.mk Q_M8
       have M9:=Aside0.mk Q_M9
       have M11:=Aside0.mk Q_M11
       have M12:=Aside0.mk Q_M12
       have M13:=Aside0.mk Q_M13
       have M14:=Aside0.mk Q_M14
       refine value_ (w1:=w') (v:=.tuple #[.agg #[.bool p0,.string p1],.agg #[.bool pr0,.string pr1]]) (by rfl) rfl ?_ ?_
       ·go_simp
        (try simp only [i64_w])
        try rfl
       refine hK.out _ _ ⟨E,g17_,g18_,m8_,m9_,(by rw [ha.out];exact putSel_upk 5 hb_ rfl rfl rfl),Q_Z,Q_M8,Q_M9,Q_M11,Q_M12,Q_M13,Q_M14,Q_M17,ab_ (hoff 10 kr_),Q_M18,ab_ (hoff 11 kr_),Q_N17,Q_N18,Q_X8_,Q_X9_⟩
      refine steps_cons ?_ ?_
      ·rintro b a w' ⟨E,g17_,g18_,m8_,m9_,ha,Q_Z,Q_M8,Q_M9,Q_M11,Q_M12,Q_M13,Q_M14,Q_M17,Q_M17s,Q_M18,Q_M18s,Q_N17,Q_N18,Q_X8_,Q_X9_⟩ hb_ hon hoff
       refine ⟨_,rfl,fun K hK=>?_⟩
       have e71:a.tmps[71]? = some (.tuple #[.agg #[.bool p0,.string p1],.agg #[.bool pr0,.string pr1]]):=by rw [ha];exact putSel_on (e:=(5,71,.tuple #[.agg #[.bool p0,.string p1],.agg #[.bool pr0,.string pr1]])) 5 rfl rfl (hon 5 kr_) rfl
       replace ha:=Aside0.mk ha
       have Z:=Aside0.mk Q_Z
       have M8:=Aside0.mk Q_M8
       have M9:=Aside0.mk Q_M9
       have M11:=Aside0.mk Q_M11
       have M12:=Aside0.mk Q_M12
       have M13:=Aside0.mk Q_M13
       have M14:=Aside0.mk Q_M14
       refine value_ (w1:=w') (v:=.agg #[.bool p0,.string p1]) (by rfl) rfl ?_ ?_
       ·go_simp
        (try simp only [i64_w])
        try rfl
       refine hK.out _ _ ⟨E,g17_,g18_,m8_,m9_,(by rw [ha.out];exact putSel_upk 6 hb_ rfl rfl rfl),Q_Z,Q_M8,Q_M9,Q_M11,Q_M12,Q_M13,Q_M14,Q_M17,ab_ (hoff 10 kr_),Q_M18,ab_ (hoff 11 kr_),Q_N17,Q_N18,Q_X8_,Q_X9_⟩
      refine steps_cons ?_ ?_
      ·rintro b a w' ⟨E,g17_,g18_,m8_,m9_,ha,Q_Z,Q_M8,Q_M9,Q_M11,Q_M12,Q_M13,Q_M14,Q_M17,Q_M17s,Q_M18,Q_M18s,Q_N17,Q_N18,Q_X8_,Q_X9_⟩ hb_ hon hoff
       refine ⟨_,rfl,fun K hK=>?_⟩
       have e71:a.tmps[71]? = some (.tuple #[.agg #[.bool p0,.string p1],.agg #[.bool pr0,.string pr1]]):=by rw [ha];exact putSel_on (e:=(5,71,.tuple #[.agg #[.bool p0,.string p1],.agg #[.bool pr0,.string pr1]])) 5 rfl rfl (hon 5 kr_) rfl
       replace ha:=Aside0.mk ha
       have Z:=Aside0.mk Q_Z
       have M8:=Aside0.mk Q_M8
       have M9:=Aside0.mk Q_M9
       have M11:=Aside0.mk Q_M11
       have M12:=Aside0.mk Q_M12
       have M13:=Aside0.mk Q_M13
       have M14:=Aside0.mk Q_M14
       refine value_ (w1:=w') (v:=.agg #[.bool pr0,.string pr1]) (by rfl) rfl ?_ ?_
       ·go_simp
        (try simp only [i64_w])
        try rfl
       refine hK.out _ _ ⟨E,g17_,g18_,m8_,m9_,(by rw [ha.out];exact putSel_upk 7 hb_ rfl rfl rfl),Q_Z,Q_M8,Q_M9,Q_M11,Q_M12,Q_M13,Q_M14,Q_M17,Q_M17s,Q_M18,ab_ (hoff 11 kr_),Q_N17,Q_N18,Q_X8_,Q_X9_⟩
      refine steps_cons ?_ ?_
      ·rintro b a w' ⟨E,g17_,g18_,m8_,m9_,ha,Q_Z,Q_M8,Q_M9,Q_M11,Q_M12,Q_M13,Q_M14,Q_M17,Q_M17s,Q_M18,Q_M18s,Q_N17,Q_N18,Q_X8_,Q_X9_⟩ hb_ hon hoff
       refine ⟨_,rfl,fun K hK=>?_⟩
       replace ha:=Aside0.mk ha
       have Z:=Aside0.mk Q_Z
       have M8:=Aside0.mk Q_M8
       have M9:=Aside0.mk Q_M9
       have M11:=Aside0.mk Q_M11
       have M12:=Aside0.mk Q_M12
       have M13:=Aside0.mk Q_M13
       have M14:=Aside0.mk Q_M14
       have N17:=Aside0.mk (Q_N17 hb_)
       refine box_step ?hg (N:=17) ?hd (cs:=#[.bool false,.string (⟨#[]⟩:ByteArray)]) (t:=43) ?hr ?_
       (case hd=>rfl)
       (case hg=>rfl)
       (case hr=>first|(go_simp;done)|(go_simp;rfl))
       intro gb hg wb hbox hb
       refine hK.out _ _ ⟨((17,gb,false,(⟨#[]⟩:ByteArray)) :: E),gb,g18_,(.pointer (some ⟨gb,0,none⟩)),m9_,(by rw [ha.out];exact putSel_upk 8 hb_ rfl rfl rfl),(Z.out.alloc 17 gb N17.out hg hbox hb),List.mem_cons_of_mem _ M8.out,List.mem_cons_of_mem _ M9.out,List.mem_cons_of_mem _ M11.out,List.mem_cons_of_mem _ M12.out,List.mem_cons_of_mem _ M13.out,List.mem_cons_of_mem _ M14.out,fun _ _=>List.mem_cons_self,ab_ (hoff 10 kr_),fun h0_ h1_=>List.mem_cons_of_mem _ (Q_M18 h0_ h1_),ab_ (hoff 11 kr_),fun h0_=>absurd ((up_self b 8).symm.trans h0_) de_,fun h0_=>(fresh_cons de_ (Q_N18 h0_)),fun _=>rfl,Q_X9_⟩
      refine steps_cons ?_ ?_
      ·rintro b a w' ⟨E,g17_,g18_,m8_,m9_,ha,Q_Z,Q_M8,Q_M9,Q_M11,Q_M12,Q_M13,Q_M14,Q_M17,Q_M17s,Q_M18,Q_M18s,Q_N17,Q_N18,Q_X8_,Q_X9_⟩ hb_ hon hoff
       refine ⟨_,rfl,fun K hK=>?_⟩
       replace ha:=Aside0.mk ha
       have Z:=Aside0.mk Q_Z
       have M8:=Aside0.mk Q_M8
       have M9:=Aside0.mk Q_M9
       have M11:=Aside0.mk Q_M11
       have M12:=Aside0.mk Q_M12
       have M13:=Aside0.mk Q_M13
       have M14:=Aside0.mk Q_M14
       have N18:=Aside0.mk (Q_N18 hb_)
       refine box_step ?hg (N:=18) ?hd (cs:=#[.bool false,.string (⟨#[]⟩:ByteArray)]) (t:=43) ?hr ?_
       (case hd=>rfl)
       (case hg=>rfl)
       (case hr=>first|(go_simp;done)|(go_simp;rfl))
       intro gb hg wb hbox hb
       refine hK.out _ _ ⟨((18,gb,false,(⟨#[]⟩:ByteArray)) :: E),g17_,gb,m8_,(.pointer (some ⟨gb,0,none⟩)),(by rw [ha.out];exact putSel_upk 9 hb_ rfl rfl rfl),(Z.out.alloc 18 gb N18.out hg hbox hb),List.mem_cons_of_mem _ M8.out,List.mem_cons_of_mem _ M9.out,List.mem_cons_of_mem _ M11.out,List.mem_cons_of_mem _ M12.out,List.mem_cons_of_mem _ M13.out,List.mem_cons_of_mem _ M14.out,fun h0_ h1_=>List.mem_cons_of_mem _ (Q_M17 h0_ h1_),ab_ (hoff 10 kr_),fun _ _=>List.mem_cons_self,ab_ (hoff 11 kr_),fun h0_=>(fresh_cons de_ (Q_N17 h0_)),fun h0_=>absurd ((up_self b 9).symm.trans h0_) de_,Q_X8_,fun _=>rfl⟩
      refine steps_cons ?_ ?_
      ·rintro b a w' ⟨E,g17_,g18_,m8_,m9_,ha,Q_Z,Q_M8,Q_M9,Q_M11,Q_M12,Q_M13,Q_M14,Q_M17,Q_M17s,Q_M18,Q_M18s,Q_N17,Q_N18,Q_X8_,Q_X9_⟩ hb_ hon hoff
       refine ⟨_,rfl,fun K hK=>?_⟩
       have e17:a.tmps[17]? = some (m8_):=by rw [ha];exact putSel_on (e:=(8,17,m8_)) 8 rfl rfl (hon 8 kr_) rfl
       rw [Q_X8_ (hon 8 kr_)] at e17
       have e77:a.tmps[77]? = some (.agg #[.bool p0,.string p1]):=by rw [ha];exact putSel_on (e:=(6,77,.agg #[.bool p0,.string p1])) 6 rfl rfl (hon 6 kr_) rfl
       replace ha:=Aside0.mk ha
       have Z:=Aside0.mk Q_Z
       have M8:=Aside0.mk Q_M8
       have M9:=Aside0.mk Q_M9
       have M11:=Aside0.mk Q_M11
       have M12:=Aside0.mk Q_M12
       have M13:=Aside0.mk Q_M13
       have M14:=Aside0.mk Q_M14
       have M17:=Aside0.mk (Q_M17 (hon 8 kr_) hb_)
       have M18:=Aside0.mk (Q_M18 (hon 9 kr_) (hoff 11 kr_))
       have hc0_:=Z.out.c0 M17.out
       have hc1_:=Z.out.c1 M17.out
       have hz0_:=Z.out.z0 M17.out
       have hz1_:=Z.out.z1 M17.out
       refine skip_ (w1:=?_) (by rfl) rfl ?_ ?_
       rotate_left
       ·go_simp
        rfl
       refine hK.out _ _ ⟨upd E 17 p0 p1,g17_,g18_,m8_,m9_,(by rw [ha.out];exact putSel_none (v:=undef) rfl),(Z.out.set M17.out p0 p1),(upd_mem_ne M8.out sm_ _ _),(upd_mem_ne M9.out sm_ _ _),(upd_mem_ne M11.out sm_ _ _),(upd_mem_ne M12.out sm_ _ _),(upd_mem_ne M13.out sm_ _ _),(upd_mem_ne M14.out sm_ _ _),fun _ h1_=>absurd ((up_self b 10).symm.trans h1_) de_,fun _=>(upd_mem M17.out _ _),fun _ _=>(upd_mem_ne M18.out sm_ _ _),ab_ (hoff 11 kr_),an_ (hon 8 kr_),an_ (hon 9 kr_),Q_X8_,Q_X9_⟩
      refine steps_cons ?_ ?_
      ·rintro b a w' ⟨E,g17_,g18_,m8_,m9_,ha,Q_Z,Q_M8,Q_M9,Q_M11,Q_M12,Q_M13,Q_M14,Q_M17,Q_M17s,Q_M18,Q_M18s,Q_N17,Q_N18,Q_X8_,Q_X9_⟩ hb_ hon hoff
       refine ⟨_,rfl,fun K hK=>?_⟩
       have e18:a.tmps[18]? = some (m9_):=by rw [ha];exact putSel_on (e:=(9,18,m9_)) 9 rfl rfl (hon 9 kr_) rfl
       rw [Q_X9_ (hon 9 kr_)] at e18
       have e78:a.tmps[78]? = some (.agg #[.bool pr0,.string pr1]):=by rw [ha];exact putSel_on (e:=(7,78,.agg #[.bool pr0,.string pr1])) 7 rfl rfl (hon 7 kr_) rfl
       replace ha:=Aside0.mk ha
       have Z:=Aside0.mk Q_Z
       have M8:=Aside0.mk Q_M8
       have M9:=Aside0.mk Q_M9
       have M11:=Aside0.mk Q_M11
       have M12:=Aside0.mk Q_M12
       have M13:=Aside0.mk Q_M13
       have M14:=Aside0.mk Q_M14
       have M17s:=Aside0.mk (Q_M17s (hon 10 kr_))
       have M18:=Aside0.mk (Q_M18 (hon 9 kr_) hb_)
       have hc0_:=Z.out.c0 M18.out
       have hc1_:=Z.out.c1 M18.out
       have hz0_:=Z.out.z0 M18.out
       have hz1_:=Z.out.z1 M18.out
       refine skip_ (w1:=?_) (by rfl) rfl ?_ ?_
       rotate_left
       ·go_simp
        rfl
       refine hK.out _ _ ⟨upd E 18 pr0 pr1,g17_,g18_,m8_,m9_,(by rw [ha.out];exact putSel_none (v:=undef) rfl),(Z.out.set M18.out pr0 pr1),(upd_mem_ne M8.out sm_ _ _),(upd_mem_ne M9.out sm_ _ _),(upd_mem_ne M11.out sm_ _ _),(upd_mem_ne M12.out sm_ _ _),(upd_mem_ne M13.out sm_ _ _),(upd_mem_ne M14.out sm_ _ _),fun _ h1_=>absurd ((hon 10 kr_).symm.trans h1_) de_,fun _=>(upd_mem_ne M17s.out sm_ _ _),fun _ h1_=>absurd ((up_self b 11).symm.trans h1_) de_,fun _=>(upd_mem M18.out _ _),an_ (hon 8 kr_),an_ (hon 9 kr_),Q_X8_,Q_X9_⟩
      exact steps_nil
     rintro b a w12 hall ⟨E,g17_,g18_,m8_,m9_,ha,Q_Z,Q_M8,Q_M9,Q_M11,Q_M12,Q_M13,Q_M14,Q_M17,Q_M17s,Q_M18,Q_M18s,Q_N17,Q_N18,Q_X8_,Q_X9_⟩
     clear M11 M12 M13 M14 M8 M9 N17 N18 Z
     have hb0_:=hall 0 kr_
     have hb1_:=hall 1 kr_
     have hb2_:=hall 2 kr_
     have hb3_:=hall 3 kr_
     have hb4_:=hall 4 kr_
     have hb5_:=hall 5 kr_
     have hb6_:=hall 6 kr_
     have hb7_:=hall 7 kr_
     have hb8_:=hall 8 kr_
     have hb9_:=hall 9 kr_
     have hb10_:=hall 10 kr_
     have hb11_:=hall 11 kr_
     subst ha
     obtain rfl:=Q_X8_ hb8_
     obtain rfl:=Q_X9_ hb9_
     simp only [putSel,hb0_,hb1_,hb2_,hb3_,hb4_,hb5_,hb6_,hb7_,hb8_,hb9_,hb10_,hb11_,if_true,Act.put,List.setIfInBounds_toArray,List.set_cons_zero,List.set_cons_succ]
     have Z:=Aside0.mk Q_Z
     clear Q_Z
     have M8:=Aside0.mk Q_M8
     clear Q_M8
     have M9:=Aside0.mk Q_M9
     clear Q_M9
     have M11:=Aside0.mk Q_M11
     clear Q_M11
     have M12:=Aside0.mk Q_M12
     clear Q_M12
     have M13:=Aside0.mk Q_M13
     clear Q_M13
     have M14:=Aside0.mk Q_M14
     clear Q_M14
     clear Q_M17
     have M17s:=Aside0.mk (Q_M17s hb10_)
     clear Q_M17s
     clear Q_M18
     have M18s:=Aside0.mk (Q_M18s hb11_)
     clear Q_M18s
     clear Q_N17
     clear Q_N18
     clear hall hb0_ hb1_ hb2_ hb3_ hb4_ hb5_ hb6_ hb7_ hb8_ hb9_ hb10_ hb11_
     replace Z:=Aside0.mk (Z.out.sub (D:=[((8,g8,n0,n1):Ent),((9,g9,m0,m1):Ent),((11,g11_,r0,r1):Ent),((12,g12_,s0,s1):Ent),((13,g13_,Y0,Y1):Ent),((14,g14_,y0,y1):Ent),((17,g17_,p0,p1):Ent)]) (by intro e he;simp only [List.mem_cons,List.not_mem_nil,or_false] at he;rcases he with rfl|rfl|rfl|rfl|rfl|rfl|rfl<;>(first|exact M8.out|exact M9.out|exact M11.out|exact M12.out|exact M13.out|exact M14.out|exact M17s.out)))
     clear M8 M9 M11 M12 M13 M14 M17s
     have M8:=Aside0.mk (show ((8,g8,n0,n1):Ent) ∈ [((8,g8,n0,n1):Ent),((9,g9,m0,m1):Ent),((11,g11_,r0,r1):Ent),((12,g12_,s0,s1):Ent),((13,g13_,Y0,Y1):Ent),((14,g14_,y0,y1):Ent),((17,g17_,p0,p1):Ent)] by simp)
     have M9:=Aside0.mk (show ((9,g9,m0,m1):Ent) ∈ [((8,g8,n0,n1):Ent),((9,g9,m0,m1):Ent),((11,g11_,r0,r1):Ent),((12,g12_,s0,s1):Ent),((13,g13_,Y0,Y1):Ent),((14,g14_,y0,y1):Ent),((17,g17_,p0,p1):Ent)] by simp)
     have M11:=Aside0.mk (show ((11,g11_,r0,r1):Ent) ∈ [((8,g8,n0,n1):Ent),((9,g9,m0,m1):Ent),((11,g11_,r0,r1):Ent),((12,g12_,s0,s1):Ent),((13,g13_,Y0,Y1):Ent),((14,g14_,y0,y1):Ent),((17,g17_,p0,p1):Ent)] by simp)
     have M12:=Aside0.mk (show ((12,g12_,s0,s1):Ent) ∈ [((8,g8,n0,n1):Ent),((9,g9,m0,m1):Ent),((11,g11_,r0,r1):Ent),((12,g12_,s0,s1):Ent),((13,g13_,Y0,Y1):Ent),((14,g14_,y0,y1):Ent),((17,g17_,p0,p1):Ent)] by simp)
     have M13:=Aside0.mk (show ((13,g13_,Y0,Y1):Ent) ∈ [((8,g8,n0,n1):Ent),((9,g9,m0,m1):Ent),((11,g11_,r0,r1):Ent),((12,g12_,s0,s1):Ent),((13,g13_,Y0,Y1):Ent),((14,g14_,y0,y1):Ent),((17,g17_,p0,p1):Ent)] by simp)
     have M14:=Aside0.mk (show ((14,g14_,y0,y1):Ent) ∈ [((8,g8,n0,n1):Ent),((9,g9,m0,m1):Ent),((11,g11_,r0,r1):Ent),((12,g12_,s0,s1):Ent),((13,g13_,Y0,Y1):Ent),((14,g14_,y0,y1):Ent),((17,g17_,p0,p1):Ent)] by simp)
     have M17:=Aside0.mk (show ((17,g17_,p0,p1):Ent) ∈ [((8,g8,n0,n1):Ent),((9,g9,m0,m1):Ent),((11,g11_,r0,r1):Ent),((12,g12_,s0,s1):Ent),((13,g13_,Y0,Y1):Ent),((14,g14_,y0,y1):Ent),((17,g17_,p0,p1):Ent)] by simp)
     have k1:=Z.out.c0 M13.out
     have k2:=Z.out.c1 M13.out
     have k3:=Z.out.c0 M17.out
     have k4:=Z.out.c1 M17.out
     go_upto_region 14 with (first|((with_reducible refine gate_callee (f:=60) rfl ?_);refine gm_ (some 82) Tryz.func60 #[.agg #[.bool Y0,.string Y1],.agg #[.bool p0,.string p1]] ?_;(with_reducible refine (integer_number_divide.calls k Y0 Y1 p0 p1 q0 q1 x2 x3 _ (HLW.out.below Z.out.bel) Hq.out).mono ?_);rintro e_ wb ⟨rfl,hb⟩;refine ⟨_,rfl,?_⟩;have Za:=Aside0.mk (Z.out.step hb);clear hb)|((with_reducible refine gate_store (t:=43) (p:=13) (v:=.tmp 84) rfl ?_);refine store_row rfl 43 (.tmp 13) (.tmp 84) rfl rfl g13_ #[.bool x2,.string x3] rfl rfl 43 _ (Za.out.at_ ((13,g13_,Y0,Y1):Ent) (show ((13,g13_,Y0,Y1):Ent) ∈ _ from M13.out)) kr_ (by rfl) (by simp [Value.oneCell']) ?_;intro w13 hbx hG;have Zb:=Aside0.mk (Za.out.grown (show ((13,g13_,Y0,Y1):Ent) ∈ _ from M13.out) x2 x3 hbx hG);clear hbx hG))
     have L8:=Aside0.mk (upd_mem_ne M8.out sm_ x2 x3 (k:=13))
     have L9:=Aside0.mk (upd_mem_ne M9.out sm_ x2 x3 (k:=13))
     have L11:=Aside0.mk (upd_mem_ne M11.out sm_ x2 x3 (k:=13))
     have L12:=Aside0.mk (upd_mem_ne M12.out sm_ x2 x3 (k:=13))
     have L14:=Aside0.mk (upd_mem_ne M14.out sm_ x2 x3 (k:=13))
     have L17:=Aside0.mk (upd_mem_ne M17.out sm_ x2 x3 (k:=13))
     have L13:=Aside0.mk (upd_mem M13.out x2 x3)
     clear k1 k2 k3 k4 Z M8 M9 M11 M12 M13 M14 M17
     have Z:=Aside0.mk (Zb.out.sub (D:=[((8,g8,n0,n1):Ent),((9,g9,m0,m1):Ent),((11,g11_,r0,r1):Ent),((12,g12_,s0,s1):Ent),((13,g13_,x2,x3):Ent),((14,g14_,y0,y1):Ent),((17,g17_,p0,p1):Ent)]) (by intro e he;simp only [List.mem_cons,List.not_mem_nil,or_false] at he;rcases he with rfl|rfl|rfl|rfl|rfl|rfl|rfl<;>(first|exact L8.out|exact L9.out|exact L11.out|exact L12.out|exact L13.out|exact L14.out|exact L17.out)))
     clear Za Zb L8 L9 L11 L12 L13 L14 L17
     have M8:=Aside0.mk (show ((8,g8,n0,n1):Ent) ∈ [((8,g8,n0,n1):Ent),((9,g9,m0,m1):Ent),((11,g11_,r0,r1):Ent),((12,g12_,s0,s1):Ent),((13,g13_,x2,x3):Ent),((14,g14_,y0,y1):Ent),((17,g17_,p0,p1):Ent)] by simp)
     have M9:=Aside0.mk (show ((9,g9,m0,m1):Ent) ∈ [((8,g8,n0,n1):Ent),((9,g9,m0,m1):Ent),((11,g11_,r0,r1):Ent),((12,g12_,s0,s1):Ent),((13,g13_,x2,x3):Ent),((14,g14_,y0,y1):Ent),((17,g17_,p0,p1):Ent)] by simp)
     have M11:=Aside0.mk (show ((11,g11_,r0,r1):Ent) ∈ [((8,g8,n0,n1):Ent),((9,g9,m0,m1):Ent),((11,g11_,r0,r1):Ent),((12,g12_,s0,s1):Ent),((13,g13_,x2,x3):Ent),((14,g14_,y0,y1):Ent),((17,g17_,p0,p1):Ent)] by simp)
     have M12:=Aside0.mk (show ((12,g12_,s0,s1):Ent) ∈ [((8,g8,n0,n1):Ent),((9,g9,m0,m1):Ent),((11,g11_,r0,r1):Ent),((12,g12_,s0,s1):Ent),((13,g13_,x2,x3):Ent),((14,g14_,y0,y1):Ent),((17,g17_,p0,p1):Ent)] by simp)
     have M13:=Aside0.mk (show ((13,g13_,x2,x3):Ent) ∈ [((8,g8,n0,n1):Ent),((9,g9,m0,m1):Ent),((11,g11_,r0,r1):Ent),((12,g12_,s0,s1):Ent),((13,g13_,x2,x3):Ent),((14,g14_,y0,y1):Ent),((17,g17_,p0,p1):Ent)] by simp)
     have M14:=Aside0.mk (show ((14,g14_,y0,y1):Ent) ∈ [((8,g8,n0,n1):Ent),((9,g9,m0,m1):Ent),((11,g11_,r0,r1):Ent),((12,g12_,s0,s1):Ent),((13,g13_,x2,x3):Ent),((14,g14_,y0,y1):Ent),((17,g17_,p0,p1):Ent)] by simp)
     have M17:=Aside0.mk (show ((17,g17_,p0,p1):Ent) ∈ [((8,g8,n0,n1):Ent),((9,g9,m0,m1):Ent),((11,g11_,r0,r1):Ent),((12,g12_,s0,s1):Ent),((13,g13_,x2,x3):Ent),((14,g14_,y0,y1):Ent),((17,g17_,p0,p1):Ent)] by simp)
     have N19:=Aside0.mk (show ∀ e ∈ [((8,g8,n0,n1):Ent),((9,g9,m0,m1):Ent),((11,g11_,r0,r1):Ent),((12,g12_,s0,s1):Ent),((13,g13_,x2,x3):Ent),((14,g14_,y0,y1):Ent),((17,g17_,p0,p1):Ent)],e.1≠19 by simp)
     have N20:=Aside0.mk (show ∀ e ∈ [((8,g8,n0,n1):Ent),((9,g9,m0,m1):Ent),((11,g11_,r0,r1):Ent),((12,g12_,s0,s1):Ent),((13,g13_,x2,x3):Ent),((14,g14_,y0,y1):Ent),((17,g17_,p0,p1):Ent)],e.1≠20 by simp)
     have Zd:=Aside0.mk Z.out.drew
     refine start_ (n:=15) (S:=fun w'=>True) (ds:=[]) #[false,false,false,false,false,false,false,false,false,false,false,false,false,false,false] kr_ rfl rfl trivial (fun hHeld=>?_)
     refine with_tabW bezF.tab14 bezF.bits14 (fun HT_ HW_=>?_)
     generalize w13.drew = wd at Zd ⊢
     refine inv_at [0,1,2,3,4,5,6,7,8,9,10,11,12,13,14] (fun a0_ b a w'=>∃ (E:List Ent) (g19_:Nat) (g20_:Nat) (m11_:Value) (m12_:Value),a = putSel a0_ b [(0,86,.agg #[.bool r0,.string r1]),(1,87,.agg #[.bool n0,.string n1]),(2,88,.agg #[.bool x2,.string x3]),(3,89,.agg #[.bool t0,.string t1]),(4,90,.agg #[.bool o0,.string o1]),(5,91,.agg #[.bool u0,.string u1]),(6,92,.agg #[.bool m0,.string m1]),(7,93,.tuple #[.agg #[.bool z0,.string z1],.agg #[.bool zr0,.string zr1]]),(8,85,.tuple #[.agg #[.bool z0,.string z1],.agg #[.bool zr0,.string zr1]]),(9,94,.agg #[.bool z0,.string z1]),(10,95,.agg #[.bool zr0,.string zr1]),(11,19,m11_),(12,20,m12_)]∧(Lies w w' E)∧(((8,g8,n0,n1):Ent) ∈ E)∧(((9,g9,m0,m1):Ent) ∈ E)∧(((11,g11_,r0,r1):Ent) ∈ E)∧(((12,g12_,s0,s1):Ent) ∈ E)∧(((13,g13_,x2,x3):Ent) ∈ E)∧(((14,g14_,y0,y1):Ent) ∈ E)∧(((17,g17_,p0,p1):Ent) ∈ E)∧(b 11 = true→b 13 = false→((19,g19_,false,(⟨#[]⟩:ByteArray)):Ent) ∈ E)∧(b 13 = true→((19,g19_,z0,z1):Ent) ∈ E)∧(b 12 = true→b 14 = false→((20,g20_,false,(⟨#[]⟩:ByteArray)):Ent) ∈ E)∧(b 14 = true→((20,g20_,zr0,zr1):Ent) ∈ E)∧(b 11 = false→∀ e ∈ E,e.1≠19)∧(b 12 = false→∀ e ∈ E,e.1≠20)∧(b 11 = true→(m11_:Value) = .pointer (some ⟨g19_,0,none⟩))∧(b 12 = true→(m12_:Value) = .pointer (some ⟨g20_,0,none⟩))) HT_.out HW_.out kr_ kr_ ?_ ?_ ?_
     ·exact ⟨[((8,g8,n0,n1):Ent),((9,g9,m0,m1):Ent),((11,g11_,r0,r1):Ent),((12,g12_,s0,s1):Ent),((13,g13_,x2,x3):Ent),((14,g14_,y0,y1):Ent),((17,g17_,p0,p1):Ent)],0,0,.bool false,.bool false,by simp only [putSel,Bool.false_eq_true,if_false],Zd.out,M8.out,M9.out,M11.out,M12.out,M13.out,M14.out,M17.out,fun h_=>absurd h_ de_,fun h_=>absurd h_ de_,fun h_=>absurd h_ de_,fun h_=>absurd h_ de_,fun _=>N19.out,fun _=>N20.out,fun h_=>absurd h_ de_,fun h_=>absurd h_ de_⟩
     ·skip
      clear M11 M12 M13 M14 M17 M8 M9 N19 N20 Z
      refine steps_cons ?_ ?_
      ·rintro b a w' ⟨E,g19_,g20_,m11_,m12_,ha,Q_Z,Q_M8,Q_M9,Q_M11,Q_M12,Q_M13,Q_M14,Q_M17,Q_M19,Q_M19s,Q_M20,Q_M20s,Q_N19,Q_N20,Q_X11_,Q_X12_⟩ hb_ hon hoff
       refine ⟨_,rfl,fun K hK=>?_⟩
       have e11:a.tmps[11]? = some (.pointer (some ⟨g11_,0,none⟩)):=by rw [ha];exact (putSel_off rfl).trans rfl
       replace ha:=Aside0.mk ha
       have Z:=Aside0.mk Q_Z
       have M8:=Aside0.mk Q_M8
       have M9:=Aside0.mk Q_M9
       have M11:=Aside0.mk Q_M11
       have M12:=Aside0.mk Q_M12
       have M13:=Aside0.mk Q_M13
       have M14:=Aside0.mk Q_M14
       have M17:=Aside0.mk Q_M17
       have hc0_:=Z.out.c0 M11.out
       have hc1_:=Z.out.c1 M11.out
       refine value_ (w1:=w') (v:=.agg #[.bool r0,.string r1]) (by rfl) rfl ?_ ?_
       ·go_simp
        (try simp only [i64_w])
        try rfl
       refine hK.out _ _ ⟨E,g19_,g20_,m11_,m12_,(by rw [ha.out];exact putSel_upk 0 hb_ rfl rfl rfl),Q_Z,Q_M8,Q_M9,Q_M11,Q_M12,Q_M13,Q_M14,Q_M17,Q_M19,ab_ (hoff 13 kr_),Q_M20,ab_ (hoff 14 kr_),Q_N19,Q_N20,Q_X11_,Q_X12_⟩
      refine steps_cons ?_ ?_
      ·rintro b a w' ⟨E,g19_,g20_,m11_,m12_,ha,Q_Z,Q_M8,Q_M9,Q_M11,Q_M12,Q_M13,Q_M14,Q_M17,Q_M19,Q_M19s,Q_M20,Q_M20s,Q_N19,Q_N20,Q_X11_,Q_X12_⟩ hb_ hon hoff
       refine ⟨_,rfl,fun K hK=>?_⟩
       have e8:a.tmps[8]? = some (.pointer (some ⟨g8,0,none⟩)):=by rw [ha];exact (putSel_off rfl).trans rfl
       replace ha:=Aside0.mk ha
       have Z:=Aside0.mk Q_Z
       have M8:=Aside0.mk Q_M8
       have M9:=Aside0.mk Q_M9
       have M11:=Aside0.mk Q_M11
       have M12:=Aside0.mk Q_M12
       have M13:=Aside0.mk Q_M13
       have M14:=Aside0.mk Q_M14
       have M17:=Aside0.mk Q_M17
       have hc0_:=Z.out.c0 M8.out
       have hc1_:=Z.out.c1 M8.out
       refine value_ (w1:=w') (v:=.agg #[.bool n0,.string n1]) (by rfl) rfl ?_ ?_
       ·go_simp
        (try simp only [i64_w])
        try rfl
       refine hK.out _ _ ⟨E,g19_,g20_,m11_,m12_,(by rw [ha.out];exact putSel_upk 1 hb_ rfl rfl rfl),Q_Z,Q_M8,Q_M9,Q_M11,Q_M12,Q_M13,Q_M14,Q_M17,Q_M19,ab_ (hoff 13 kr_),Q_M20,ab_ (hoff 14 kr_),Q_N19,Q_N20,Q_X11_,Q_X12_⟩
      refine steps_cons ?_ ?_
      ·rintro b a w' ⟨E,g19_,g20_,m11_,m12_,ha,Q_Z,Q_M8,Q_M9,Q_M11,Q_M12,Q_M13,Q_M14,Q_M17,Q_M19,Q_M19s,Q_M20,Q_M20s,Q_N19,Q_N20,Q_X11_,Q_X12_⟩ hb_ hon hoff
       refine ⟨_,rfl,fun K hK=>?_⟩
       have e13:a.tmps[13]? = some (.pointer (some ⟨g13_,0,none⟩)):=by rw [ha];exact (putSel_off rfl).trans rfl
       replace ha:=Aside0.mk ha
       have Z:=Aside0.mk Q_Z
       have M8:=Aside0.mk Q_M8
       have M9:=Aside0.mk Q_M9
       have M11:=Aside0.mk Q_M11
       have M12:=Aside0.mk Q_M12
       have M13:=Aside0.mk Q_M13
       have M14:=Aside0.mk Q_M14
       have M17:=Aside0.mk Q_M17
       have hc0_:=Z.out.c0 M13.out
       have hc1_:=Z.out.c1 M13.out
       refine value_ (w1:=w') (v:=.agg #[.bool x2,.string x3]) (by rfl) rfl ?_ ?_
       ·go_simp
        (try simp only [i64_w])
        try rfl
       refine hK.out _ _ ⟨E,g19_,g20_,m11_,m12_,(by rw [ha.out];exact putSel_upk 2 hb_ rfl rfl rfl),Q_Z,Q_M8,Q_M9,Q_M11,Q_M12,Q_M13,Q_M14,Q_M17,Q_M19,ab_ (hoff 13 kr_),Q_M20,ab_ (hoff 14 kr_),Q_N19,Q_N20,Q_X11_,Q_X12_⟩
      refine steps_cons ?_ ?_
      ·rintro b a w' ⟨E,g19_,g20_,m11_,m12_,ha,Q_Z,Q_M8,Q_M9,Q_M11,Q_M12,Q_M13,Q_M14,Q_M17,Q_M19,Q_M19s,Q_M20,Q_M20s,Q_N19,Q_N20,Q_X11_,Q_X12_⟩ hb_ hon hoff
       refine ⟨_,rfl,fun K hK=>?_⟩
       have e87:a.tmps[87]? = some (.agg #[.bool n0,.string n1]):=by rw [ha];exact putSel_on (e:=(1,87,.agg #[.bool n0,.string n1])) 1 rfl rfl (hon 1 kr_) rfl
       have e88:a.tmps[88]? = some (.agg #[.bool x2,.string x3]):=by rw [ha];exact putSel_on (e:=(2,88,.agg #[.bool x2,.string x3])) 2 rfl rfl (hon 2 kr_) rfl
       replace ha:=Aside0.mk ha
       have Z:=Aside0.mk Q_Z
       have M8:=Aside0.mk Q_M8
       have M9:=Aside0.mk Q_M9
       have M11:=Aside0.mk Q_M11
       have M12:=Aside0.mk Q_M12
       have M13:=Aside0.mk Q_M13
       have M14:=Aside0.mk Q_M14
       have M17:=Aside0.mk Q_M17
       refine goes_ Tryz.func57 kr_ rfl #[.agg #[.bool n0,.string n1],.agg #[.bool x2,.string x3]] (by rfl) rfl rfl (by first|(simp only [List.map_toArray,List.map_cons,List.map_nil,Act.eval,Array.getD_eq_getD_getElem?,Option.getD_some,e87,e88];done)|(simp only [List.map_toArray,List.map_cons,List.map_nil,Act.eval,Array.getD_eq_getD_getElem?,Option.getD_some,e87,e88];rfl)) ?_
       with_reducible refine (integer_number_times.calls n0 n1 x2 x3 t0 t1 _ (HLW.out.below Z.out.bel) Ht.out).mono ?_
       rintro e_ wb ⟨rfl,hb⟩
       refine ⟨_,rfl,?_⟩
       refine hK.out _ _ ⟨E,g19_,g20_,m11_,m12_,(by rw [ha.out];exact putSel_upk 3 hb_ rfl rfl rfl),(Z.out.step hb),Q_M8,Q_M9,Q_M11,Q_M12,Q_M13,Q_M14,Q_M17,Q_M19,ab_ (hoff 13 kr_),Q_M20,ab_ (hoff 14 kr_),Q_N19,Q_N20,Q_X11_,Q_X12_⟩
      refine steps_cons ?_ ?_
      ·rintro b a w' ⟨E,g19_,g20_,m11_,m12_,ha,Q_Z,Q_M8,Q_M9,Q_M11,Q_M12,Q_M13,Q_M14,Q_M17,Q_M19,Q_M19s,Q_M20,Q_M20s,Q_N19,Q_N20,Q_X11_,Q_X12_⟩ hb_ hon hoff
       refine ⟨_,rfl,fun K hK=>?_⟩
       have e89:a.tmps[89]? = some (.agg #[.bool t0,.string t1]):=by rw [ha];exact putSel_on (e:=(3,89,.agg #[.bool t0,.string t1])) 3 rfl rfl (hon 3 kr_) rfl
       replace ha:=Aside0.mk ha
       have Z:=Aside0.mk Q_Z
       have M8:=Aside0.mk Q_M8
       have M9:=Aside0.mk Q_M9
       have M11:=Aside0.mk Q_M11
       have M12:=Aside0.mk Q_M12
       have M13:=Aside0.mk Q_M13
       have M14:=Aside0.mk Q_M14
       have M17:=Aside0.mk Q_M17
       refine goes_ Tryz.func45 kr_ rfl #[.agg #[.bool t0,.string t1]] (by rfl) rfl rfl (by first|(simp only [List.map_toArray,List.map_cons,List.map_nil,Act.eval,Array.getD_eq_getD_getElem?,Option.getD_some,e89];done)|(simp only [List.map_toArray,List.map_cons,List.map_nil,Act.eval,Array.getD_eq_getD_getElem?,Option.getD_some,e89];rfl)) ?_
       with_reducible refine (integer_number_opposite.calls t0 t1 o0 o1 _ Ho.out).mono ?_
       rintro e_ wb ⟨rfl,hb⟩
       refine ⟨_,rfl,?_⟩
       refine hK.out _ _ ⟨E,g19_,g20_,m11_,m12_,(by rw [ha.out];exact putSel_upk 4 hb_ rfl rfl rfl),(Z.out.step hb),Q_M8,Q_M9,Q_M11,Q_M12,Q_M13,Q_M14,Q_M17,Q_M19,ab_ (hoff 13 kr_),Q_M20,ab_ (hoff 14 kr_),Q_N19,Q_N20,Q_X11_,Q_X12_⟩
      refine steps_cons ?_ ?_
      ·rintro b a w' ⟨E,g19_,g20_,m11_,m12_,ha,Q_Z,Q_M8,Q_M9,Q_M11,Q_M12,Q_M13,Q_M14,Q_M17,Q_M19,Q_M19s,Q_M20,Q_M20s,Q_N19,Q_N20,Q_X11_,Q_X12_⟩ hb_ hon hoff
       refine ⟨_,rfl,fun K hK=>?_⟩
       have e86:a.tmps[86]? = some (.agg #[.bool r0,.string r1]):=by rw [ha];exact putSel_on (e:=(0,86,.agg #[.bool r0,.string r1])) 0 rfl rfl (hon 0 kr_) rfl
       have e90:a.tmps[90]? = some (.agg #[.bool o0,.string o1]):=by rw [ha];exact putSel_on (e:=(4,90,.agg #[.bool o0,.string o1])) 4 rfl rfl (hon 4 kr_) rfl
       replace ha:=Aside0.mk ha
       have Z:=Aside0.mk Q_Z
       have M8:=Aside0.mk Q_M8
       have M9:=Aside0.mk Q_M9
       have M11:=Aside0.mk Q_M11
       have M12:=Aside0.mk Q_M12
       have M13:=Aside0.mk Q_M13
       have M14:=Aside0.mk Q_M14
       have M17:=Aside0.mk Q_M17
       refine goes_ Tryz.func52 kr_ rfl #[.agg #[.bool r0,.string r1],.agg #[.bool o0,.string o1]] (by rfl) rfl rfl (by first|(simp only [List.map_toArray,List.map_cons,List.map_nil,Act.eval,Array.getD_eq_getD_getElem?,Option.getD_some,e86,e90];done)|(simp only [List.map_toArray,List.map_cons,List.map_nil,Act.eval,Array.getD_eq_getD_getElem?,Option.getD_some,e86,e90];rfl)) ?_
       with_reducible refine (integer_number_plus.calls r0 r1 o0 o1 u0 u1 _ (HLW.out.below Z.out.bel) Hu.out).mono ?_
       rintro e_ wb ⟨rfl,hb⟩
       refine ⟨_,rfl,?_⟩
       refine hK.out _ _ ⟨E,g19_,g20_,m11_,m12_,(by rw [ha.out];exact putSel_upk 5 hb_ rfl rfl rfl),(Z.out.step hb),Q_M8,Q_M9,Q_M11,Q_M12,Q_M13,Q_M14,Q_M17,Q_M19,ab_ (hoff 13 kr_),Q_M20,ab_ (hoff 14 kr_),Q_N19,Q_N20,Q_X11_,Q_X12_⟩
      refine steps_cons ?_ ?_
      ·rintro b a w' ⟨E,g19_,g20_,m11_,m12_,ha,Q_Z,Q_M8,Q_M9,Q_M11,Q_M12,Q_M13,Q_M14,Q_M17,Q_M19,Q_M19s,Q_M20,Q_M20s,Q_N19,Q_N20,Q_X11_,Q_X12_⟩ hb_ hon hoff
       refine ⟨_,rfl,fun K hK=>?_⟩
       have e9:a.tmps[9]? = some (.pointer (some ⟨g9,0,none⟩)):=by rw [ha];exact (putSel_off rfl).trans rfl
       replace ha:=Aside0.mk ha
       have Z:=Aside0.mk Q_Z
       have M8:=Aside0.mk Q_M8
       have M9:=Aside0.mk Q_M9
       have M11:=Aside0.mk Q_M11
       have M12:=Aside0.mk Q_M12
       have M13:=Aside0.mk Q_M13
       have M14:=Aside0.mk Q_M14
       have M17:=Aside0.mk Q_M17
       have hc0_:=Z.out.c0 M9.out
       have hc1_:=Z.out.c1 M9.out
       refine value_ (w1:=w') (v:=.agg #[.bool m0,.string m1]) (by rfl) rfl ?_ ?_
       ·go_simp
        (try simp only [i64_w])
        try rfl
       refine hK.out _ _ ⟨E,g19_,g20_,m11_,m12_,(by rw [ha.out];exact putSel_upk 6 hb_ rfl rfl rfl),Q_Z,Q_M8,Q_M9,Q_M11,Q_M12,Q_M13,Q_M14,Q_M17,Q_M19,ab_ (hoff 13 kr_),Q_M20,ab_ (hoff 14 kr_),Q_N19,Q_N20,Q_X11_,Q_X12_⟩
      refine steps_cons ?_ ?_
      ·rintro b a w' ⟨E,g19_,g20_,m11_,m12_,ha,Q_Z,Q_M8,Q_M9,Q_M11,Q_M12,Q_M13,Q_M14,Q_M17,Q_M19,Q_M19s,Q_M20,Q_M20s,Q_N19,Q_N20,Q_X11_,Q_X12_⟩ hb_ hon hoff
       refine ⟨_,rfl,fun K hK=>?_⟩
       have e91:a.tmps[91]? = some (.agg #[.bool u0,.string u1]):=by rw [ha];exact putSel_on (e:=(5,91,.agg #[.bool u0,.string u1])) 5 rfl rfl (hon 5 kr_) rfl
       have e92:a.tmps[92]? = some (.agg #[.bool m0,.string m1]):=by rw [ha];exact putSel_on (e:=(6,92,.agg #[.bool m0,.string m1])) 6 rfl rfl (hon 6 kr_) rfl
       replace ha:=Aside0.mk ha
       have Z:=Aside0.mk Q_Z
       have M8:=Aside0.mk Q_M8
       have M9:=Aside0.mk Q_M9
       have M11:=Aside0.mk Q_M11
       have M12:=Aside0.mk Q_M12
       have M13:=Aside0.mk Q_M13
       have M14:=Aside0.mk Q_M14
       have M17:=Aside0.mk Q_M17
       refine goes_ Tryz.func60 kr_ rfl #[.agg #[.bool u0,.string u1],.agg #[.bool m0,.string m1]] (by rfl) rfl rfl (by first|(simp only [List.map_toArray,List.map_cons,List.map_nil,Act.eval,Array.getD_eq_getD_getElem?,Option.getD_some,e91,e92];done)|(simp only [List.map_toArray,List.map_cons,List.map_nil,Act.eval,Array.getD_eq_getD_getElem?,Option.getD_some,e91,e92];rfl)) ?_
       with_reducible refine (integer_number_divide.calls k u0 u1 m0 m1 z0 z1 zr0 zr1 _ (HLW.out.below Z.out.bel) Hz.out).mono ?_
       rintro e_ wb ⟨rfl,hb⟩
       refine ⟨_,rfl,?_⟩
       refine hK.out _ _ ⟨E,g19_,g20_,m11_,m12_,(by rw [ha.out];exact putSel_upk 7 hb_ rfl rfl rfl),(Z.out.step hb),Q_M8,Q_M9,Q_M11,Q_M12,Q_M13,Q_M14,Q_M17,Q_M19,ab_ (hoff 13 kr_),Q_M20,ab_ (hoff 14 kr_),Q_N19,Q_N20,Q_X11_,Q_X12_⟩
      refine steps_cons ?_ ?_
      ·rintro b a w' ⟨E,g19_,g20_,m11_,m12_,ha,Q_Z,Q_M8,Q_M9,Q_M11,Q_M12,Q_M13,Q_M14,Q_M17,Q_M19,Q_M19s,Q_M20,Q_M20s,Q_N19,Q_N20,Q_X11_,Q_X12_⟩ hb_ hon hoff
       refine ⟨_,rfl,fun K hK=>?_⟩
       have e93:a.tmps[93]? = some (.tuple #[.agg #[.bool z0,.string z1],.agg #[.bool zr0,.string zr1]]):=by rw [ha];exact putSel_on (e:=(7,93,.tuple #[.agg #[.bool z0,.string z1],.agg #[.bool zr0,.string zr1]])) 7 rfl rfl (hon 7 kr_) rfl
       replace ha:=Aside0.mk ha
       have Z:=Aside0.mk Q_Z
       have M8:=Aside0.mk Q_M8
       have M9:=Aside0.mk Q_M9
       have M11:=Aside0.mk Q_M11
       have M12:=Aside0.mk Q_M12
       have M13:=Aside0.mk Q_M13
       have M14:=Aside0.mk Q_M14
       have M17:=Aside0.mk Q_M17
       refine value_ (w1:=w') (v:=.tuple #[.agg #[.bool z0,.string z1],.agg #[.bool zr0,.string zr1]]) (by rfl) rfl ?_ ?_
       ·go_simp
        (try simp only [i64_w])
        try rfl
       refine hK.out _ _ ⟨E,g19_,g20_,m11_,m12_,(by rw [ha.out];exact putSel_upk 8 hb_ rfl rfl rfl),Q_Z,Q_M8,Q_M9,Q_M11,Q_M12,Q_M13,Q_M14,Q_M17,Q_M19,ab_ (hoff 13 kr_),Q_M20,ab_ (hoff 14 kr_),Q_N19,Q_N20,Q_X11_,Q_X12_⟩
      refine steps_cons ?_ ?_
      ·rintro b a w' ⟨E,g19_,g20_,m11_,m12_,ha,Q_Z,Q_M8,Q_M9,Q_M11,Q_M12,Q_M13,Q_M14,Q_M17,Q_M19,Q_M19s,Q_M20,Q_M20s,Q_N19,Q_N20,Q_X11_,Q_X12_⟩ hb_ hon hoff
       refine ⟨_,rfl,fun K hK=>?_⟩
       have e85:a.tmps[85]? = some (.tuple #[.agg #[.bool z0,.string z1],.agg #[.bool zr0,.string zr1]]):=by rw [ha];exact putSel_on (e:=(8,85,.tuple #[.agg #[.bool z0,.string z1],.agg #[.bool zr0,.string zr1]])) 8 rfl rfl (hon 8 kr_) rfl
       replace ha:=Aside0.mk ha
       have Z:=Aside0.mk Q_Z
       have M8:=Aside0.mk Q_M8
       have M9:=Aside0.mk Q_M9
       have M11:=Aside0.mk Q_M11
       have M12:=Aside0.mk Q_M12
       have M13:=Aside0.mk Q_M13
       have M14:=Aside0.mk Q_M14
       have M17:=Aside0.mk Q_M17
       refine value_ (w1:=w') (v:=.agg #[.bool z0,.string z1]) (by rfl) rfl ?_ ?_
       ·go_simp
        (try simp only [i64_w])
        try rfl
       refine hK.out _ _ ⟨E,g19_,g20_,m11_,m12_,(by rw [ha.out];exact putSel_upk 9 hb_ rfl rfl rfl),Q_Z,Q_M8,Q_M9,Q_M11,Q_M12,Q_M13,Q_M14,Q_M17,Q_M19,ab_ (hoff 13 kr_),Q_M20,ab_ (hoff 14 kr_),Q_N19,Q_N20,Q_X11_,Q_X12_⟩
      refine steps_cons ?_ ?_
      ·rintro b a w' ⟨E,g19_,g20_,m11_,m12_,ha,Q_Z,Q_M8,Q_M9,Q_M11,Q_M12,Q_M13,Q_M14,Q_M17,Q_M19,Q_M19s,Q_M20,Q_M20s,Q_N19,Q_N20,Q_X11_,Q_X12_⟩ hb_ hon hoff
       refine ⟨_,rfl,fun K hK=>?_⟩
       have e85:a.tmps[85]? = some (.tuple #[.agg #[.bool z0,.string z1],.agg #[.bool zr0,.string zr1]]):=by rw [ha];exact putSel_on (e:=(8,85,.tuple #[.agg #[.bool z0,.string z1],.agg #[.bool zr0,.string zr1]])) 8 rfl rfl (hon 8 kr_) rfl
       replace ha:=Aside0.mk ha
       have Z:=Aside0.mk Q_Z
       have M8:=Aside0.mk Q_M8
       have M9:=Aside0.mk Q_M9
       have M11:=Aside0.mk Q_M11
       have M12:=Aside0.mk Q_M12
       have M13:=Aside0.mk Q_M13
       have M14:=Aside0.mk Q_M14
       have M17:=Aside0.mk Q_M17
       refine value_ (w1:=w') (v:=.agg #[.bool zr0,.string zr1]) (by rfl) rfl ?_ ?_
       ·go_simp
        (try simp only [i64_w])
        try rfl
       refine hK.out _ _ ⟨E,g19_,g20_,m11_,m12_,(by rw [ha.out];exact putSel_upk 10 hb_ rfl rfl rfl),Q_Z,Q_M8,Q_M9,Q_M11,Q_M12,Q_M13,Q_M14,Q_M17,Q_M19,Q_M19s,Q_M20,ab_ (hoff 14 kr_),Q_N19,Q_N20,Q_X11_,Q_X12_⟩
      refine steps_cons ?_ ?_
      ·rintro b a w' ⟨E,g19_,g20_,m11_,m12_,ha,Q_Z,Q_M8,Q_M9,Q_M11,Q_M12,Q_M13,Q_M14,Q_M17,Q_M19,Q_M19s,Q_M20,Q_M20s,Q_N19,Q_N20,Q_X11_,Q_X12_⟩ hb_ hon hoff
       refine ⟨_,rfl,fun K hK=>?_⟩
       replace ha:=Aside0.mk ha
       have Z:=Aside0.mk Q_Z
       have M8:=Aside0.mk Q_M8
       have M9:=Aside0.mk Q_M9
       have M11:=Aside0.mk Q_M11
       have M12:=Aside0.mk Q_M12
       have M13:=Aside0.mk Q_M13
       have M14:=Aside0.mk Q_M14
       have M17:=Aside0.mk Q_M17
       have N19:=Aside0.mk (Q_N19 hb_)
       refine box_step ?hg (N:=19) ?hd (cs:=#[.bool false,.string (⟨#[]⟩:ByteArray)]) (t:=43) ?hr ?_
       (case hd=>rfl)
       (case hg=>rfl)
       (case hr=>first|(go_simp;done)|(go_simp;rfl))
       intro gb hg wb hbox hb
       refine hK.out _ _ ⟨((19,gb,false,(⟨#[]⟩:ByteArray)) :: E),gb,g20_,(.pointer (some ⟨gb,0,none⟩)),m12_,(by rw [ha.out];exact putSel_upk 11 hb_ rfl rfl rfl),(Z.out.alloc 19 gb N19.out hg hbox hb),List.mem_cons_of_mem _ M8.out,List.mem_cons_of_mem _ M9.out,List.mem_cons_of_mem _ M11.out,List.mem_cons_of_mem _ M12.out,List.mem_cons_of_mem _ M13.out,List.mem_cons_of_mem _ M14.out,List.mem_cons_of_mem _ M17.out,fun _ _=>List.mem_cons_self,ab_ (hoff 13 kr_),fun h0_ h1_=>List.mem_cons_of_mem _ (Q_M20 h0_ h1_),ab_ (hoff 14 kr_),fun h0_=>absurd ((up_self b 11).symm.trans h0_) de_,fun h0_=>(fresh_cons de_ (Q_N20 h0_)),fun _=>rfl,Q_X12_⟩
      refine steps_cons ?_ ?_
      ·rintro b a w' ⟨E,g19_,g20_,m11_,m12_,ha,Q_Z,Q_M8,Q_M9,Q_M11,Q_M12,Q_M13,Q_M14,Q_M17,Q_M19,Q_M19s,Q_M20,Q_M20s,Q_N19,Q_N20,Q_X11_,Q_X12_⟩ hb_ hon hoff
       refine ⟨_,rfl,fun K hK=>?_⟩
       replace ha:=Aside0.mk ha
       have Z:=Aside0.mk Q_Z
       have M8:=Aside0.mk Q_M8
       have M9:=Aside0.mk Q_M9
       have M11:=Aside0.mk Q_M11
       have M12:=Aside0.mk Q_M12
       have M13:=Aside0.mk Q_M13
       have M14:=Aside0.mk Q_M14
       have M17:=Aside0.mk Q_M17
       have N20:=Aside0.mk (Q_N20 hb_)
       refine box_step ?hg (N:=20) ?hd (cs:=#[.bool false,.string (⟨#[]⟩:ByteArray)]) (t:=43) ?hr ?_
       (case hd=>rfl)
       (case hg=>rfl)
       (case hr=>first|(go_simp;done)|(go_simp;rfl))
       intro gb hg wb hbox hb
       refine hK.out _ _ ⟨((20,gb,false,(⟨#[]⟩:ByteArray)) :: E),g19_,gb,m11_,(.pointer (some ⟨gb,0,none⟩)),(by rw [ha.out];exact putSel_upk 12 hb_ rfl rfl rfl),(Z.out.alloc 20 gb N20.out hg hbox hb),List.mem_cons_of_mem _ M8.out,List.mem_cons_of_mem _ M9.out,List.mem_cons_of_mem _ M11.out,List.mem_cons_of_mem _ M12.out,List.mem_cons_of_mem _ M13.out,List.mem_cons_of_mem _ M14.out,List.mem_cons_of_mem _ M17.out,fun h0_ h1_=>List.mem_cons_of_mem _ (Q_M19 h0_ h1_),ab_ (hoff 13 kr_),fun _ _=>List.mem_cons_self,ab_ (hoff 14 kr_),fun h0_=>(fresh_cons de_ (Q_N19 h0_)),fun h0_=>absurd ((up_self b 12).symm.trans h0_) de_,Q_X11_,fun _=>rfl⟩
      refine steps_cons ?_ ?_
      ·rintro b a w' ⟨E,g19_,g20_,m11_,m12_,ha,Q_Z,Q_M8,Q_M9,Q_M11,Q_M12,Q_M13,Q_M14,Q_M17,Q_M19,Q_M19s,Q_M20,Q_M20s,Q_N19,Q_N20,Q_X11_,Q_X12_⟩ hb_ hon hoff
       refine ⟨_,rfl,fun K hK=>?_⟩
       have e19:a.tmps[19]? = some (m11_):=by rw [ha];exact putSel_on (e:=(11,19,m11_)) 11 rfl rfl (hon 11 kr_) rfl
       rw [Q_X11_ (hon 11 kr_)] at e19
       have e94:a.tmps[94]? = some (.agg #[.bool z0,.string z1]):=by rw [ha];exact putSel_on (e:=(9,94,.agg #[.bool z0,.string z1])) 9 rfl rfl (hon 9 kr_) rfl
       replace ha:=Aside0.mk ha
       have Z:=Aside0.mk Q_Z
       have M8:=Aside0.mk Q_M8
       have M9:=Aside0.mk Q_M9
       have M11:=Aside0.mk Q_M11
       have M12:=Aside0.mk Q_M12
       have M13:=Aside0.mk Q_M13
       have M14:=Aside0.mk Q_M14
       have M17:=Aside0.mk Q_M17
       have M19:=Aside0.mk (Q_M19 (hon 11 kr_) hb_)
       have M20:=Aside0.mk (Q_M20 (hon 12 kr_) (hoff 14 kr_))
       have hc0_:=Z.out.c0 M19.out
       have hc1_:=Z.out.c1 M19.out
       have hz0_:=Z.out.z0 M19.out
       have hz1_:=Z.out.z1 M19.out
       refine skip_ (w1:=?_) (by rfl) rfl ?_ ?_
       rotate_left
       ·go_simp
        rfl
       refine hK.out _ _ ⟨upd E 19 z0 z1,g19_,g20_,m11_,m12_,(by rw [ha.out];exact putSel_none (v:=undef) rfl),(Z.out.set M19.out z0 z1),(upd_mem_ne M8.out sm_ _ _),(upd_mem_ne M9.out sm_ _ _),(upd_mem_ne M11.out sm_ _ _),(upd_mem_ne M12.out sm_ _ _),(upd_mem_ne M13.out sm_ _ _),(upd_mem_ne M14.out sm_ _ _),(upd_mem_ne M17.out sm_ _ _),fun _ h1_=>absurd ((up_self b 13).symm.trans h1_) de_,fun _=>(upd_mem M19.out _ _),fun _ _=>(upd_mem_ne M20.out sm_ _ _),ab_ (hoff 14 kr_),an_ (hon 11 kr_),an_ (hon 12 kr_),Q_X11_,Q_X12_⟩
      refine steps_cons ?_ ?_
      ·rintro b a w' ⟨E,g19_,g20_,m11_,m12_,ha,Q_Z,Q_M8,Q_M9,Q_M11,Q_M12,Q_M13,Q_M14,Q_M17,Q_M19,Q_M19s,Q_M20,Q_M20s,Q_N19,Q_N20,Q_X11_,Q_X12_⟩ hb_ hon hoff
       refine ⟨_,rfl,fun K hK=>?_⟩
       have e20:a.tmps[20]? = some (m12_):=by rw [ha];exact putSel_on (e:=(12,20,m12_)) 12 rfl rfl (hon 12 kr_) rfl
       rw [Q_X12_ (hon 12 kr_)] at e20
       have e95:a.tmps[95]? = some (.agg #[.bool zr0,.string zr1]):=by rw [ha];exact putSel_on (e:=(10,95,.agg #[.bool zr0,.string zr1])) 10 rfl rfl (hon 10 kr_) rfl
       replace ha:=Aside0.mk ha
       have Z:=Aside0.mk Q_Z
       have M8:=Aside0.mk Q_M8
       have M9:=Aside0.mk Q_M9
       have M11:=Aside0.mk Q_M11
       have M12:=Aside0.mk Q_M12
       have M13:=Aside0.mk Q_M13
       have M14:=Aside0.mk Q_M14
       have M17:=Aside0.mk Q_M17
       have M19s:=Aside0.mk (Q_M19s (hon 13 kr_))
       have M20:=Aside0.mk (Q_M20 (hon 12 kr_) hb_)
       have hc0_:=Z.out.c0 M20.out
       have hc1_:=Z.out.c1 M20.out
       have hz0_:=Z.out.z0 M20.out
       have hz1_:=Z.out.z1 M20.out
       refine skip_ (w1:=?_) (by rfl) rfl ?_ ?_
       rotate_left
       ·go_simp
        rfl
       refine hK.out _ _ ⟨upd E 20 zr0 zr1,g19_,g20_,m11_,m12_,(by rw [ha.out];exact putSel_none (v:=undef) rfl),(Z.out.set M20.out zr0 zr1),(upd_mem_ne M8.out sm_ _ _),(upd_mem_ne M9.out sm_ _ _),(upd_mem_ne M11.out sm_ _ _),(upd_mem_ne M12.out sm_ _ _),(upd_mem_ne M13.out sm_ _ _),(upd_mem_ne M14.out sm_ _ _),(upd_mem_ne M17.out sm_ _ _),fun _ h1_=>absurd ((hon 13 kr_).symm.trans h1_) de_,fun _=>(upd_mem_ne M19s.out sm_ _ _),fun _ h1_=>absurd ((up_self b 14).symm.trans h1_) de_,fun _=>(upd_mem M20.out _ _),an_ (hon 11 kr_),an_ (hon 12 kr_),Q_X11_,Q_X12_⟩
      exact steps_nil
     rintro b a w14 hall ⟨E,g19_,g20_,m11_,m12_,ha,Q_Z,Q_M8,Q_M9,Q_M11,Q_M12,Q_M13,Q_M14,Q_M17,Q_M19,Q_M19s,Q_M20,Q_M20s,Q_N19,Q_N20,Q_X11_,Q_X12_⟩
     clear M11 M12 M13 M14 M17 M8 M9 N19 N20 Z
     have hb0_:=hall 0 kr_
     have hb1_:=hall 1 kr_
     have hb2_:=hall 2 kr_
     have hb3_:=hall 3 kr_
     have hb4_:=hall 4 kr_
     have hb5_:=hall 5 kr_
     have hb6_:=hall 6 kr_
     have hb7_:=hall 7 kr_
     have hb8_:=hall 8 kr_
     have hb9_:=hall 9 kr_
     have hb10_:=hall 10 kr_
     have hb11_:=hall 11 kr_
     have hb12_:=hall 12 kr_
     have hb13_:=hall 13 kr_
     have hb14_:=hall 14 kr_
     subst ha
     obtain rfl:=Q_X11_ hb11_
     obtain rfl:=Q_X12_ hb12_
     simp only [putSel,hb0_,hb1_,hb2_,hb3_,hb4_,hb5_,hb6_,hb7_,hb8_,hb9_,hb10_,hb11_,hb12_,hb13_,hb14_,if_true,Act.put,List.setIfInBounds_toArray,List.set_cons_zero,List.set_cons_succ]
     have Z:=Aside0.mk Q_Z
     clear Q_Z
     have M8:=Aside0.mk Q_M8
     clear Q_M8
     have M9:=Aside0.mk Q_M9
     clear Q_M9
     have M11:=Aside0.mk Q_M11
     clear Q_M11
     have M12:=Aside0.mk Q_M12
     clear Q_M12
     have M13:=Aside0.mk Q_M13
     clear Q_M13
     have M14:=Aside0.mk Q_M14
     clear Q_M14
     have M17:=Aside0.mk Q_M17
     clear Q_M17
     clear Q_M19
     have M19s:=Aside0.mk (Q_M19s hb13_)
     clear Q_M19s
     clear Q_M20
     have M20s:=Aside0.mk (Q_M20s hb14_)
     clear Q_M20s
     clear Q_N19
     clear Q_N20
     clear hall hb0_ hb1_ hb2_ hb3_ hb4_ hb5_ hb6_ hb7_ hb8_ hb9_ hb10_ hb11_ hb12_ hb13_ hb14_
     replace Z:=Aside0.mk (Z.out.sub (D:=[((8,g8,n0,n1):Ent),((9,g9,m0,m1):Ent),((11,g11_,r0,r1):Ent),((12,g12_,s0,s1):Ent),((13,g13_,x2,x3):Ent),((14,g14_,y0,y1):Ent),((17,g17_,p0,p1):Ent),((19,g19_,z0,z1):Ent)]) (by intro e he;simp only [List.mem_cons,List.not_mem_nil,or_false] at he;rcases he with rfl|rfl|rfl|rfl|rfl|rfl|rfl|rfl<;>(first|exact M8.out|exact M9.out|exact M11.out|exact M12.out|exact M13.out|exact M14.out|exact M17.out|exact M19s.out)))
     clear M8 M9 M11 M12 M13 M14 M17 M19s
     have M8:=Aside0.mk (show ((8,g8,n0,n1):Ent) ∈ [((8,g8,n0,n1):Ent),((9,g9,m0,m1):Ent),((11,g11_,r0,r1):Ent),((12,g12_,s0,s1):Ent),((13,g13_,x2,x3):Ent),((14,g14_,y0,y1):Ent),((17,g17_,p0,p1):Ent),((19,g19_,z0,z1):Ent)] by simp)
     have M9:=Aside0.mk (show ((9,g9,m0,m1):Ent) ∈ [((8,g8,n0,n1):Ent),((9,g9,m0,m1):Ent),((11,g11_,r0,r1):Ent),((12,g12_,s0,s1):Ent),((13,g13_,x2,x3):Ent),((14,g14_,y0,y1):Ent),((17,g17_,p0,p1):Ent),((19,g19_,z0,z1):Ent)] by simp)
     have M11:=Aside0.mk (show ((11,g11_,r0,r1):Ent) ∈ [((8,g8,n0,n1):Ent),((9,g9,m0,m1):Ent),((11,g11_,r0,r1):Ent),((12,g12_,s0,s1):Ent),((13,g13_,x2,x3):Ent),((14,g14_,y0,y1):Ent),((17,g17_,p0,p1):Ent),((19,g19_,z0,z1):Ent)] by simp)
     have M12:=Aside0.mk (show ((12,g12_,s0,s1):Ent) ∈ [((8,g8,n0,n1):Ent),((9,g9,m0,m1):Ent),((11,g11_,r0,r1):Ent),((12,g12_,s0,s1):Ent),((13,g13_,x2,x3):Ent),((14,g14_,y0,y1):Ent),((17,g17_,p0,p1):Ent),((19,g19_,z0,z1):Ent)] by simp)
     have M13:=Aside0.mk (show ((13,g13_,x2,x3):Ent) ∈ [((8,g8,n0,n1):Ent),((9,g9,m0,m1):Ent),((11,g11_,r0,r1):Ent),((12,g12_,s0,s1):Ent),((13,g13_,x2,x3):Ent),((14,g14_,y0,y1):Ent),((17,g17_,p0,p1):Ent),((19,g19_,z0,z1):Ent)] by simp)
     have M14:=Aside0.mk (show ((14,g14_,y0,y1):Ent) ∈ [((8,g8,n0,n1):Ent),((9,g9,m0,m1):Ent),((11,g11_,r0,r1):Ent),((12,g12_,s0,s1):Ent),((13,g13_,x2,x3):Ent),((14,g14_,y0,y1):Ent),((17,g17_,p0,p1):Ent),((19,g19_,z0,z1):Ent)] by simp)
     have M17:=Aside0.mk (show ((17,g17_,p0,p1):Ent) ∈ [((8,g8,n0,n1):Ent),((9,g9,m0,m1):Ent),((11,g11_,r0,r1):Ent),((12,g12_,s0,s1):Ent),((13,g13_,x2,x3):Ent),((14,g14_,y0,y1):Ent),((17,g17_,p0,p1):Ent),((19,g19_,z0,z1):Ent)] by simp)
     have M19:=Aside0.mk (show ((19,g19_,z0,z1):Ent) ∈ [((8,g8,n0,n1):Ent),((9,g9,m0,m1):Ent),((11,g11_,r0,r1):Ent),((12,g12_,s0,s1):Ent),((13,g13_,x2,x3):Ent),((14,g14_,y0,y1):Ent),((17,g17_,p0,p1):Ent),((19,g19_,z0,z1):Ent)] by simp)
     go_upto_region 15 with (fail)
     have Zd:=Aside0.mk Z.out.drew
     refine start_ (n:=10) (S:=fun w'=>True) (ds:=[]) #[false,false,false,false,false,false,false,false,false,false] kr_ rfl rfl trivial (fun hHeld=>?_)
     refine with_tabW bezF.tab15 bezF.bits15 (fun HT_ HW_=>?_)
     generalize w14.drew = wd at Zd ⊢
     refine inv_at [0,1,2,3,4,5,6,7,8,9] (fun a0_ b a w'=>∃ (E:List Ent),a = putSel a0_ b [(0,96,.agg #[.bool r0,.string r1]),(1,97,.string ta),(2,98,.agg #[.bool x2,.string x3]),(3,99,.string tb),(4,100,.agg #[.bool z0,.string z1]),(5,101,.string tc),(6,4,.string ta),(7,5,.string tb),(8,6,.string tc),(9,7,.int .i64 0)]∧(Lies w w' E)∧(((8,g8,n0,n1):Ent) ∈ E)∧(((9,g9,m0,m1):Ent) ∈ E)∧(((11,g11_,r0,r1):Ent) ∈ E)∧(((12,g12_,s0,s1):Ent) ∈ E)∧(((13,g13_,x2,x3):Ent) ∈ E)∧(((14,g14_,y0,y1):Ent) ∈ E)∧(((17,g17_,p0,p1):Ent) ∈ E)∧(((19,g19_,z0,z1):Ent) ∈ E)) HT_.out HW_.out kr_ kr_ ?_ ?_ ?_
     ·exact ⟨[((8,g8,n0,n1):Ent),((9,g9,m0,m1):Ent),((11,g11_,r0,r1):Ent),((12,g12_,s0,s1):Ent),((13,g13_,x2,x3):Ent),((14,g14_,y0,y1):Ent),((17,g17_,p0,p1):Ent),((19,g19_,z0,z1):Ent)],by simp only [putSel,Bool.false_eq_true,if_false],Zd.out,M8.out,M9.out,M11.out,M12.out,M13.out,M14.out,M17.out,M19.out⟩
     ·skip
      clear M11 M12 M13 M14 M17 M19 M8 M9 Z
      refine steps_cons ?_ ?_
      ·rintro b a w' ⟨E,ha,Q_Z,Q_M8,Q_M9,Q_M11,Q_M12,Q_M13,Q_M14,Q_M17,Q_M19⟩ hb_ hon hoff
       refine ⟨_,rfl,fun K hK=>?_⟩
       have e11:a.tmps[11]? = some (.pointer (some ⟨g11_,0,none⟩)):=by rw [ha];exact (putSel_off rfl).trans rfl
       replace ha:=Aside0.mk ha
       have Z:=Aside0.mk Q_Z
       have M8:=Aside0.mk Q_M8
       have M9:=Aside0.mk Q_M9
       have M11:=Aside0.mk Q_M11
       have M12:=Aside0.mk Q_M12
       have M13:=Aside0.mk Q_M13
       have M14:=Aside0.mk Q_M14
       have M17:=Aside0.mk Q_M17
       have M19:=Aside0.mk Q_M19
       have hc0_:=Z.out.c0 M11.out
       have hc1_:=Z.out.c1 M11.out
       refine value_ (w1:=w') (v:=.agg #[.bool r0,.string r1]) (by rfl) rfl ?_ ?_
       ·go_simp
        (try simp only [i64_w])
        try rfl
       refine hK.out _ _ ⟨E,(by rw [ha.out];exact putSel_upk 0 hb_ rfl rfl rfl),Q_Z,Q_M8,Q_M9,Q_M11,Q_M12,Q_M13,Q_M14,Q_M17,Q_M19⟩
      refine steps_cons ?_ ?_
      ·rintro b a w' ⟨E,ha,Q_Z,Q_M8,Q_M9,Q_M11,Q_M12,Q_M13,Q_M14,Q_M17,Q_M19⟩ hb_ hon hoff
       refine ⟨_,rfl,fun K hK=>?_⟩
       have e96:a.tmps[96]? = some (.agg #[.bool r0,.string r1]):=by rw [ha];exact putSel_on (e:=(0,96,.agg #[.bool r0,.string r1])) 0 rfl rfl (hon 0 kr_) rfl
       replace ha:=Aside0.mk ha
       have Z:=Aside0.mk Q_Z
       have M8:=Aside0.mk Q_M8
       have M9:=Aside0.mk Q_M9
       have M11:=Aside0.mk Q_M11
       have M12:=Aside0.mk Q_M12
       have M13:=Aside0.mk Q_M13
       have M14:=Aside0.mk Q_M14
       have M17:=Aside0.mk Q_M17
       have M19:=Aside0.mk Q_M19
       refine goes_ Tryz.func46 kr_ rfl #[.agg #[.bool r0,.string r1]] (by rfl) rfl rfl (by first|(simp only [List.map_toArray,List.map_cons,List.map_nil,Act.eval,Array.getD_eq_getD_getElem?,Option.getD_some,e96];done)|(simp only [List.map_toArray,List.map_cons,List.map_nil,Act.eval,Array.getD_eq_getD_getElem?,Option.getD_some,e96];rfl)) ?_
       with_reducible refine (integer_number_text.calls r0 r1 ta _ Hta.out).mono ?_
       rintro e_ wb ⟨rfl,hb⟩
       refine ⟨_,rfl,?_⟩
       refine hK.out _ _ ⟨E,(by rw [ha.out];exact putSel_upk 1 hb_ rfl rfl rfl),(Z.out.step hb),Q_M8,Q_M9,Q_M11,Q_M12,Q_M13,Q_M14,Q_M17,Q_M19⟩
      refine steps_cons ?_ ?_
      ·rintro b a w' ⟨E,ha,Q_Z,Q_M8,Q_M9,Q_M11,Q_M12,Q_M13,Q_M14,Q_M17,Q_M19⟩ hb_ hon hoff
       refine ⟨_,rfl,fun K hK=>?_⟩
       have e13:a.tmps[13]? = some (.pointer (some ⟨g13_,0,none⟩)):=by rw [ha];exact (putSel_off rfl).trans rfl
       replace ha:=Aside0.mk ha
       have Z:=Aside0.mk Q_Z
       have M8:=Aside0.mk Q_M8
       have M9:=Aside0.mk Q_M9
       have M11:=Aside0.mk Q_M11
       have M12:=Aside0.mk Q_M12
       have M13:=Aside0.mk Q_M13
       have M14:=Aside0.mk Q_M14
       have M17:=Aside0.mk Q_M17
       have M19:=Aside0.mk Q_M19
       have hc0_:=Z.out.c0 M13.out
       have hc1_:=Z.out.c1 M13.out
       refine value_ (w1:=w') (v:=.agg #[.bool x2,.string x3]) (by rfl) rfl ?_ ?_
       ·go_simp
        (try simp only [i64_w])
        try rfl
       refine hK.out _ _ ⟨E,(by rw [ha.out];exact putSel_upk 2 hb_ rfl rfl rfl),Q_Z,Q_M8,Q_M9,Q_M11,Q_M12,Q_M13,Q_M14,Q_M17,Q_M19⟩
      refine steps_cons ?_ ?_
      ·rintro b a w' ⟨E,ha,Q_Z,Q_M8,Q_M9,Q_M11,Q_M12,Q_M13,Q_M14,Q_M17,Q_M19⟩ hb_ hon hoff
       refine ⟨_,rfl,fun K hK=>?_⟩
       have e98:a.tmps[98]? = some (.agg #[.bool x2,.string x3]):=by rw [ha];exact putSel_on (e:=(2,98,.agg #[.bool x2,.string x3])) 2 rfl rfl (hon 2 kr_) rfl
       replace ha:=Aside0.mk ha
       have Z:=Aside0.mk Q_Z
       have M8:=Aside0.mk Q_M8
       have M9:=Aside0.mk Q_M9
       have M11:=Aside0.mk Q_M11
       have M12:=Aside0.mk Q_M12
       have M13:=Aside0.mk Q_M13
       have M14:=Aside0.mk Q_M14
       have M17:=Aside0.mk Q_M17
       have M19:=Aside0.mk Q_M19
       refine goes_ Tryz.func46 kr_ rfl #[.agg #[.bool x2,.string x3]] (by rfl) rfl rfl (by first|(simp only [List.map_toArray,List.map_cons,List.map_nil,Act.eval,Array.getD_eq_getD_getElem?,Option.getD_some,e98];done)|(simp only [List.map_toArray,List.map_cons,List.map_nil,Act.eval,Array.getD_eq_getD_getElem?,Option.getD_some,e98];rfl)) ?_
       with_reducible refine (integer_number_text.calls x2 x3 tb _ Htb.out).mono ?_
       rintro e_ wb ⟨rfl,hb⟩
       refine ⟨_,rfl,?_⟩
       refine hK.out _ _ ⟨E,(by rw [ha.out];exact putSel_upk 3 hb_ rfl rfl rfl),(Z.out.step hb),Q_M8,Q_M9,Q_M11,Q_M12,Q_M13,Q_M14,Q_M17,Q_M19⟩
      refine steps_cons ?_ ?_
      ·rintro b a w' ⟨E,ha,Q_Z,Q_M8,Q_M9,Q_M11,Q_M12,Q_M13,Q_M14,Q_M17,Q_M19⟩ hb_ hon hoff
       refine ⟨_,rfl,fun K hK=>?_⟩
       have e19:a.tmps[19]? = some (.pointer (some ⟨g19_,0,none⟩)):=by rw [ha];exact (putSel_off rfl).trans rfl
       replace ha:=Aside0.mk ha
       have Z:=Aside0.mk Q_Z
       have M8:=Aside0.mk Q_M8
       have M9:=Aside0.mk Q_M9
       have M11:=Aside0.mk Q_M11
       have M12:=Aside0.mk Q_M12
       have M13:=Aside0.mk Q_M13
       have M14:=Aside0.mk Q_M14
       have M17:=Aside0.mk Q_M17
       have M19:=Aside0.mk Q_M19
       have hc0_:=Z.out.c0 M19.out
       have hc1_:=Z.out.c1 M19.out
       refine value_ (w1:=w') (v:=.agg #[.bool z0,.string z1]) (by rfl) rfl ?_ ?_
       ·go_simp
        (try simp only [i64_w])
        try rfl
       refine hK.out _ _ ⟨E,(by rw [ha.out];exact putSel_upk 4 hb_ rfl rfl rfl),Q_Z,Q_M8,Q_M9,Q_M11,Q_M12,Q_M13,Q_M14,Q_M17,Q_M19⟩
      refine steps_cons ?_ ?_
      ·rintro b a w' ⟨E,ha,Q_Z,Q_M8,Q_M9,Q_M11,Q_M12,Q_M13,Q_M14,Q_M17,Q_M19⟩ hb_ hon hoff
       refine ⟨_,rfl,fun K hK=>?_⟩
       have e100:a.tmps[100]? = some (.agg #[.bool z0,.string z1]):=by rw [ha];exact putSel_on (e:=(4,100,.agg #[.bool z0,.string z1])) 4 rfl rfl (hon 4 kr_) rfl
       replace ha:=Aside0.mk ha
       have Z:=Aside0.mk Q_Z
       have M8:=Aside0.mk Q_M8
       have M9:=Aside0.mk Q_M9
       have M11:=Aside0.mk Q_M11
       have M12:=Aside0.mk Q_M12
       have M13:=Aside0.mk Q_M13
       have M14:=Aside0.mk Q_M14
       have M17:=Aside0.mk Q_M17
       have M19:=Aside0.mk Q_M19
       refine goes_ Tryz.func46 kr_ rfl #[.agg #[.bool z0,.string z1]] (by rfl) rfl rfl (by first|(simp only [List.map_toArray,List.map_cons,List.map_nil,Act.eval,Array.getD_eq_getD_getElem?,Option.getD_some,e100];done)|(simp only [List.map_toArray,List.map_cons,List.map_nil,Act.eval,Array.getD_eq_getD_getElem?,Option.getD_some,e100];rfl)) ?_
       with_reducible refine (integer_number_text.calls z0 z1 tc _ Htc.out).mono ?_
       rintro e_ wb ⟨rfl,hb⟩
       refine ⟨_,rfl,?_⟩
       refine hK.out _ _ ⟨E,(by rw [ha.out];exact putSel_upk 5 hb_ rfl rfl rfl),(Z.out.step hb),Q_M8,Q_M9,Q_M11,Q_M12,Q_M13,Q_M14,Q_M17,Q_M19⟩
      refine steps_cons ?_ ?_
      ·rintro b a w' ⟨E,ha,Q_Z,Q_M8,Q_M9,Q_M11,Q_M12,Q_M13,Q_M14,Q_M17,Q_M19⟩ hb_ hon hoff
       refine ⟨_,rfl,fun K hK=>?_⟩
       have e97:a.tmps[97]? = some (.string ta):=by rw [ha];exact putSel_on (e:=(1,97,.string ta)) 1 rfl rfl (hon 1 kr_) rfl
       replace ha:=Aside0.mk ha
       have Z:=Aside0.mk Q_Z
       have M8:=Aside0.mk Q_M8
       have M9:=Aside0.mk Q_M9
       have M11:=Aside0.mk Q_M11
       have M12:=Aside0.mk Q_M12
       have M13:=Aside0.mk Q_M13
       have M14:=Aside0.mk Q_M14
       have M17:=Aside0.mk Q_M17
       have M19:=Aside0.mk Q_M19
       refine value_ (w1:=w') (v:=.string ta) (by rfl) rfl ?_ ?_
       ·go_simp
        (try simp only [i64_w])
        try rfl
       refine hK.out _ _ ⟨E,(by rw [ha.out];exact putSel_upk 6 hb_ rfl rfl rfl),Q_Z,Q_M8,Q_M9,Q_M11,Q_M12,Q_M13,Q_M14,Q_M17,Q_M19⟩
      refine steps_cons ?_ ?_
      ·rintro b a w' ⟨E,ha,Q_Z,Q_M8,Q_M9,Q_M11,Q_M12,Q_M13,Q_M14,Q_M17,Q_M19⟩ hb_ hon hoff
       refine ⟨_,rfl,fun K hK=>?_⟩
       have e99:a.tmps[99]? = some (.string tb):=by rw [ha];exact putSel_on (e:=(3,99,.string tb)) 3 rfl rfl (hon 3 kr_) rfl
       replace ha:=Aside0.mk ha
       have Z:=Aside0.mk Q_Z
       have M8:=Aside0.mk Q_M8
       have M9:=Aside0.mk Q_M9
       have M11:=Aside0.mk Q_M11
       have M12:=Aside0.mk Q_M12
       have M13:=Aside0.mk Q_M13
       have M14:=Aside0.mk Q_M14
       have M17:=Aside0.mk Q_M17
       have M19:=Aside0.mk Q_M19
       refine value_ (w1:=w') (v:=.string tb) (by rfl) rfl ?_ ?_
       ·go_simp
        (try simp only [i64_w])
        try rfl
       refine hK.out _ _ ⟨E,(by rw [ha.out];exact putSel_upk 7 hb_ rfl rfl rfl),Q_Z,Q_M8,Q_M9,Q_M11,Q_M12,Q_M13,Q_M14,Q_M17,Q_M19⟩
      refine steps_cons ?_ ?_
      ·rintro b a w' ⟨E,ha,Q_Z,Q_M8,Q_M9,Q_M11,Q_M12,Q_M13,Q_M14,Q_M17,Q_M19⟩ hb_ hon hoff
       refine ⟨_,rfl,fun K hK=>?_⟩
       have e101:a.tmps[101]? = some (.string tc):=by rw [ha];exact putSel_on (e:=(5,101,.string tc)) 5 rfl rfl (hon 5 kr_) rfl
       replace ha:=Aside0.mk ha
       have Z:=Aside0.mk Q_Z
       have M8:=Aside0.mk Q_M8
       have M9:=Aside0.mk Q_M9
       have M11:=Aside0.mk Q_M11
       have M12:=Aside0.mk Q_M12
       have M13:=Aside0.mk Q_M13
       have M14:=Aside0.mk Q_M14
       have M17:=Aside0.mk Q_M17
       have M19:=Aside0.mk Q_M19
       refine value_ (w1:=w') (v:=.string tc) (by rfl) rfl ?_ ?_
       ·go_simp
        (try simp only [i64_w])
        try rfl
       refine hK.out _ _ ⟨E,(by rw [ha.out];exact putSel_upk 8 hb_ rfl rfl rfl),Q_Z,Q_M8,Q_M9,Q_M11,Q_M12,Q_M13,Q_M14,Q_M17,Q_M19⟩
      refine steps_cons ?_ ?_
      ·rintro b a w' ⟨E,ha,Q_Z,Q_M8,Q_M9,Q_M11,Q_M12,Q_M13,Q_M14,Q_M17,Q_M19⟩ hb_ hon hoff
       refine ⟨_,rfl,fun K hK=>?_⟩
       replace ha:=Aside0.mk ha
       have Z:=Aside0.mk Q_Z
       have M8:=Aside0.mk Q_M8
       have M9:=Aside0.mk Q_M9
       have M11:=Aside0.mk Q_M11
       have M12:=Aside0.mk Q_M12
       have M13:=Aside0.mk Q_M13
       have M14:=Aside0.mk Q_M14
       have M17:=Aside0.mk Q_M17
       have M19:=Aside0.mk Q_M19
       refine value_ (w1:=w') (v:=.int .i64 0) (by rfl) rfl ?_ ?_
       ·go_simp
        (try simp only [i64_w])
        try rfl
       refine hK.out _ _ ⟨E,(by rw [ha.out];exact putSel_upk 9 hb_ rfl rfl rfl),Q_Z,Q_M8,Q_M9,Q_M11,Q_M12,Q_M13,Q_M14,Q_M17,Q_M19⟩
      exact steps_nil
     rintro b a w15 hall ⟨E,ha,Q_Z,Q_M8,Q_M9,Q_M11,Q_M12,Q_M13,Q_M14,Q_M17,Q_M19⟩
     clear M11 M12 M13 M14 M17 M19 M8 M9 Z
     have hb0_:=hall 0 kr_
     have hb1_:=hall 1 kr_
     have hb2_:=hall 2 kr_
     have hb3_:=hall 3 kr_
     have hb4_:=hall 4 kr_
     have hb5_:=hall 5 kr_
     have hb6_:=hall 6 kr_
     have hb7_:=hall 7 kr_
     have hb8_:=hall 8 kr_
     have hb9_:=hall 9 kr_
     subst ha
     simp only [putSel,hb0_,hb1_,hb2_,hb3_,hb4_,hb5_,hb6_,hb7_,hb8_,hb9_,if_true,Act.put,List.setIfInBounds_toArray,List.set_cons_zero,List.set_cons_succ]
     have Z:=Aside0.mk Q_Z
     clear Q_Z
     have M8:=Aside0.mk Q_M8
     clear Q_M8
     have M9:=Aside0.mk Q_M9
     clear Q_M9
     have M11:=Aside0.mk Q_M11
     clear Q_M11
     have M12:=Aside0.mk Q_M12
     clear Q_M12
     have M13:=Aside0.mk Q_M13
     clear Q_M13
     have M14:=Aside0.mk Q_M14
     clear Q_M14
     have M17:=Aside0.mk Q_M17
     clear Q_M17
     have M19:=Aside0.mk Q_M19
     clear Q_M19
     clear hall hb0_ hb1_ hb2_ hb3_ hb4_ hb5_ hb6_ hb7_ hb8_ hb9_
     try go_wp2
     refine bodyPost_ret (results_list (rs:=[.tmp 4,.tmp 5,.tmp 6,.tmp 7]) rfl sm_ (.tmp (.tmp (.tmp (.tmp .nil))))) rfl ?_
     exact ⟨rfl,Z.out.bel⟩
   ·rw [if_neg c] at H
    have HC:=Aside0.mk (Bool.eq_false_iff.2 c)
    clear c
    obtain ⟨⟨q0,q1,t0,t1⟩,Aq,H⟩:=Option.bind_eq_some_iff.mp H
    have Hq:=Aside0.mk Aq
    clear Aq
    obtain ⟨⟨p0,p1⟩,Ap,H⟩:=Option.bind_eq_some_iff.mp H
    have Hp:=Aside0.mk Ap
    clear Ap
    obtain ⟨⟨o0,o1⟩,Ao,H⟩:=Option.bind_eq_some_iff.mp H
    have Ho:=Aside0.mk Ao
    clear Ao
    obtain ⟨⟨z0,z1⟩,Az,H⟩:=Option.bind_eq_some_iff.mp H
    have Hz:=Aside0.mk Az
    clear Az
    have HN:=Aside0.mk H
    clear H
    go_upto_region 7 with (fail)
    have Zd:=Aside0.mk Z.out.drew
    refine start_ (n:=3) (S:=fun w'=>w'.cell? ⟨g12_,0,none⟩ = some (.bool s0)∧w'.cell? ⟨g12_,1,none⟩ = some (.string s1)) (ds:=[]) #[false,false,false] kr_ rfl rfl ⟨Zd.out.c0 M12.out,Zd.out.c1 M12.out⟩ (fun hHeld=>?_)
    generalize wr.drew = wd at Zd hHeld ⊢
    refine tk2_ 0 (some 49) #[true,false,false] hHeld ?_
    refine oc_ 1 (some 50) #[true,true,false] Tryz.func59 #[] (fun K hK=>?_)
    with_reducible refine (integer_zero.calls false (⟨#[48]⟩:ByteArray) _ rfl).mono ?_
    rintro e_ w8 ⟨rfl,hb⟩
    refine ⟨_,rfl,?_⟩
    replace Z:=Aside0.mk (Zd.out.step hb)
    clear Zd hb
    refine hK.out _ _ ⟨Z.out.c0 M12.out,Z.out.c1 M12.out⟩ (fun hHeld=>?_)
    clear hK K
    refine norm_ (a':=?_) ?_ ?_
    rotate_left
    ·show Act.put _ (some 50) _ = _
     simp only [Act.put,List.setIfInBounds_toArray,List.set_cons_zero,List.set_cons_succ,i64_w,i32_w]
     rfl
    refine pure_ (i:=2) (N:=some 51) (v:=.bool true) (a':=?_) #[true,true,true] rfl rfl kr_ (fun _ _ _ h=>h) (Or.inl ⟨by rfl,?_⟩) ?_ ?_
    ·intro w'
     have hh:=HC.out
     go_simp
     first|(with_reducible rfl)|(revert hh;cases s0<;>(try simp)<;>(try (intro h1;simp [h1])))
    rotate_left
    ·simp only [Act.put,List.setIfInBounds_toArray,List.set_cons_zero,List.set_cons_succ,i64_w,i32_w]
     rfl
    refine done_ kr_ ?_
    have k1:=Z.out.c0 M11.out
    have k2:=Z.out.c1 M11.out
    have k3:=Z.out.c0 M12.out
    have k4:=Z.out.c1 M12.out
    go_upto_region 9 with (first|((with_reducible refine gate_callee (f:=60) rfl ?_);refine gm_ (some 55) Tryz.func60 #[.agg #[.bool r0,.string r1],.agg #[.bool s0,.string s1]] ?_;(with_reducible refine (integer_number_divide.calls kk r0 r1 s0 s1 q0 q1 t0 t1 _ (HLW.out.below Z.out.bel) Hq.out).mono ?_);rintro e_ wb ⟨rfl,hb⟩;refine ⟨_,rfl,?_⟩;have Za:=Aside0.mk (Z.out.step hb);clear hb)|((with_reducible refine gate_dst (N:=15) rfl ?_);refine box_event ?hg (N:=15) ?hd (cs:=#[.bool false,.string (⟨#[]⟩:ByteArray)]) (t:=43) ?hr ?_;(case hd=>rfl);(case hg=>rfl);(case hr=>first|(go_simp;done)|(go_simp;rfl));intro g15 hg wb hbox hb;have Zb:=Aside0.mk (Za.out.alloc 15 g15 sm_ hg hbox hb);clear hg hbox hb)|((with_reducible refine gate_dst (N:=16) rfl ?_);refine box_event ?hg (N:=16) ?hd (cs:=#[.bool false,.string (⟨#[]⟩:ByteArray)]) (t:=43) ?hr ?_;(case hd=>rfl);(case hg=>rfl);(case hr=>first|(go_simp;done)|(go_simp;rfl));intro g16 hg wb hbox hb;have Zc:=Aside0.mk (Zb.out.alloc 16 g16 sm_ hg hbox hb);clear hg hbox hb)|((with_reducible refine gate_store (t:=43) (p:=15) (v:=.tmp 56) rfl ?_);refine store_row rfl 43 (.tmp 15) (.tmp 56) rfl rfl g15 #[.bool q0,.string q1] rfl rfl 43 _ (Zc.out.at_ ((15,g15,false,(⟨#[]⟩:ByteArray)):Ent) (show ((15,g15,false,(⟨#[]⟩:ByteArray)):Ent) ∈ _ from List.mem_cons_of_mem _ List.mem_cons_self)) kr_ (by rfl) (by simp [Value.oneCell']) ?_;intro wd_ hbx hG;have Zd:=Aside0.mk (Zc.out.grown (show ((15,g15,false,(⟨#[]⟩:ByteArray)):Ent) ∈ _ from List.mem_cons_of_mem _ List.mem_cons_self) q0 q1 hbx hG);clear hbx hG)|((with_reducible refine gate_store (t:=43) (p:=16) (v:=.tmp 57) rfl ?_);refine store_row rfl 43 (.tmp 16) (.tmp 57) rfl rfl g16 #[.bool t0,.string t1] rfl rfl 43 _ (Zd.out.at_ ((16,g16,false,(⟨#[]⟩:ByteArray)):Ent) (upd_mem_ne (e:=((16,g16,false,(⟨#[]⟩:ByteArray)):Ent)) List.mem_cons_self sm_ _ _)) kr_ (by rfl) (by simp [Value.oneCell']) ?_;intro we_ hbx hG;have Ze:=Aside0.mk (Zd.out.grown (upd_mem_ne (e:=((16,g16,false,(⟨#[]⟩:ByteArray)):Ent)) List.mem_cons_self sm_ _ _) t0 t1 hbx hG);clear hbx hG))
    have Zf:=Aside0.mk (Ze.out.sub (D:=[((8,g8,n0,n1):Ent),((9,g9,m0,m1):Ent),((11,g11_,r0,r1):Ent),((12,g12_,s0,s1):Ent),((13,g13_,x0,x1):Ent),((14,g14_,y0,y1):Ent),((15,g15,q0,q1):Ent),((16,g16,t0,t1):Ent)]) (by simp [upd]))
    clear k1 k2 k3 k4 Z Za Zb Zc Zd Ze M8 M9 M11 M12 M13 M14
    have Z:=Aside0.mk Zf.out
    clear Zf
    have M8:=Aside0.mk (show ((8,g8,n0,n1):Ent) ∈ [((8,g8,n0,n1):Ent),((9,g9,m0,m1):Ent),((11,g11_,r0,r1):Ent),((12,g12_,s0,s1):Ent),((13,g13_,x0,x1):Ent),((14,g14_,y0,y1):Ent),((15,g15,q0,q1):Ent),((16,g16,t0,t1):Ent)] by simp)
    have M9:=Aside0.mk (show ((9,g9,m0,m1):Ent) ∈ [((8,g8,n0,n1):Ent),((9,g9,m0,m1):Ent),((11,g11_,r0,r1):Ent),((12,g12_,s0,s1):Ent),((13,g13_,x0,x1):Ent),((14,g14_,y0,y1):Ent),((15,g15,q0,q1):Ent),((16,g16,t0,t1):Ent)] by simp)
    have M11:=Aside0.mk (show ((11,g11_,r0,r1):Ent) ∈ [((8,g8,n0,n1):Ent),((9,g9,m0,m1):Ent),((11,g11_,r0,r1):Ent),((12,g12_,s0,s1):Ent),((13,g13_,x0,x1):Ent),((14,g14_,y0,y1):Ent),((15,g15,q0,q1):Ent),((16,g16,t0,t1):Ent)] by simp)
    have M12:=Aside0.mk (show ((12,g12_,s0,s1):Ent) ∈ [((8,g8,n0,n1):Ent),((9,g9,m0,m1):Ent),((11,g11_,r0,r1):Ent),((12,g12_,s0,s1):Ent),((13,g13_,x0,x1):Ent),((14,g14_,y0,y1):Ent),((15,g15,q0,q1):Ent),((16,g16,t0,t1):Ent)] by simp)
    have M13:=Aside0.mk (show ((13,g13_,x0,x1):Ent) ∈ [((8,g8,n0,n1):Ent),((9,g9,m0,m1):Ent),((11,g11_,r0,r1):Ent),((12,g12_,s0,s1):Ent),((13,g13_,x0,x1):Ent),((14,g14_,y0,y1):Ent),((15,g15,q0,q1):Ent),((16,g16,t0,t1):Ent)] by simp)
    have M14:=Aside0.mk (show ((14,g14_,y0,y1):Ent) ∈ [((8,g8,n0,n1):Ent),((9,g9,m0,m1):Ent),((11,g11_,r0,r1):Ent),((12,g12_,s0,s1):Ent),((13,g13_,x0,x1):Ent),((14,g14_,y0,y1):Ent),((15,g15,q0,q1):Ent),((16,g16,t0,t1):Ent)] by simp)
    have M15:=Aside0.mk (show ((15,g15,q0,q1):Ent) ∈ [((8,g8,n0,n1):Ent),((9,g9,m0,m1):Ent),((11,g11_,r0,r1):Ent),((12,g12_,s0,s1):Ent),((13,g13_,x0,x1):Ent),((14,g14_,y0,y1):Ent),((15,g15,q0,q1):Ent),((16,g16,t0,t1):Ent)] by simp)
    have M16:=Aside0.mk (show ((16,g16,t0,t1):Ent) ∈ [((8,g8,n0,n1):Ent),((9,g9,m0,m1):Ent),((11,g11_,r0,r1):Ent),((12,g12_,s0,s1):Ent),((13,g13_,x0,x1):Ent),((14,g14_,y0,y1):Ent),((15,g15,q0,q1):Ent),((16,g16,t0,t1):Ent)] by simp)
    have Zd:=Aside0.mk Z.out.drew
    refine start_ (n:=13) (S:=fun w'=>True) (ds:=[]) #[false,false,false,false,false,false,false,false,false,false,false,false,false] kr_ rfl rfl trivial (fun hHeld=>?_)
    refine with_tabW bezF.tab9 bezF.bits9 (fun HT_ HW_=>?_)
    generalize we_.drew = wd at Zd ⊢
    refine inv_at [0,1,2,3,4,5,6,7,8,9,10,11,12] (fun a0_ b a w'=>∃ (E:List Ent),a = putSel a0_ b [(0,58,.agg #[.bool s0,.string s1]),(1,59,.agg #[.bool t0,.string t1]),(2,60,.agg #[.bool y0,.string y1]),(3,61,.agg #[.bool x0,.string x1]),(4,62,.agg #[.bool q0,.string q1]),(5,63,.agg #[.bool y0,.string y1]),(6,64,.agg #[.bool p0,.string p1]),(7,65,.agg #[.bool o0,.string o1]),(8,66,.agg #[.bool z0,.string z1])]∧(Lies w w' E)∧(((8,g8,n0,n1):Ent) ∈ E)∧(((9,g9,m0,m1):Ent) ∈ E)∧(b 9 = false→((11,g11_,r0,r1):Ent) ∈ E)∧(b 9 = true→((11,g11_,s0,s1):Ent) ∈ E)∧(b 10 = false→((12,g12_,s0,s1):Ent) ∈ E)∧(b 10 = true→((12,g12_,t0,t1):Ent) ∈ E)∧(b 11 = false→((13,g13_,x0,x1):Ent) ∈ E)∧(b 11 = true→((13,g13_,y0,y1):Ent) ∈ E)∧(b 12 = false→((14,g14_,y0,y1):Ent) ∈ E)∧(b 12 = true→((14,g14_,z0,z1):Ent) ∈ E)∧(((15,g15,q0,q1):Ent) ∈ E)∧(((16,g16,t0,t1):Ent) ∈ E)) HT_.out HW_.out kr_ kr_ ?_ ?_ ?_
    ·exact ⟨[((8,g8,n0,n1):Ent),((9,g9,m0,m1):Ent),((11,g11_,r0,r1):Ent),((12,g12_,s0,s1):Ent),((13,g13_,x0,x1):Ent),((14,g14_,y0,y1):Ent),((15,g15,q0,q1):Ent),((16,g16,t0,t1):Ent)],by simp only [putSel,Bool.false_eq_true,if_false],Zd.out,M8.out,M9.out,fun _=>M11.out,fun h_=>absurd h_ de_,fun _=>M12.out,fun h_=>absurd h_ de_,fun _=>M13.out,fun h_=>absurd h_ de_,fun _=>M14.out,fun h_=>absurd h_ de_,M15.out,M16.out⟩
    ·skip
     clear M11 M12 M13 M14 M15 M16 M8 M9 Z
     refine steps_cons ?_ ?_
     ·rintro b a w' ⟨E,ha,Q_Z,Q_M8,Q_M9,Q_M11,Q_M11s,Q_M12,Q_M12s,Q_M13,Q_M13s,Q_M14,Q_M14s,Q_M15,Q_M16⟩ hb_ hon hoff
      refine ⟨_,rfl,fun K hK=>?_⟩
      have e12:a.tmps[12]? = some (.pointer (some ⟨g12_,0,none⟩)):=by rw [ha];exact (putSel_off rfl).trans rfl
      replace ha:=Aside0.mk ha
      have Z:=Aside0.mk Q_Z
      have M8:=Aside0.mk Q_M8
      have M9:=Aside0.mk Q_M9
      have M11:=Aside0.mk (Q_M11 (hoff 9 kr_))
      have M12:=Aside0.mk (Q_M12 (hoff 10 kr_))
      have M13:=Aside0.mk (Q_M13 (hoff 11 kr_))
      have M14:=Aside0.mk (Q_M14 (hoff 12 kr_))
      have M15:=Aside0.mk Q_M15
      have M16:=Aside0.mk Q_M16
      have hc0_:=Z.out.c0 M12.out
      have hc1_:=Z.out.c1 M12.out
      refine value_ (w1:=w') (v:=.agg #[.bool s0,.string s1]) (by rfl) rfl ?_ ?_
      ·go_simp
       (try simp only [i64_w])
       try rfl
      refine hK.out _ _ ⟨E,(by rw [ha.out];exact putSel_upk 0 hb_ rfl rfl rfl),Q_Z,Q_M8,Q_M9,Q_M11,ab_ (hoff 9 kr_),Q_M12,ab_ (hoff 10 kr_),Q_M13,ab_ (hoff 11 kr_),Q_M14,ab_ (hoff 12 kr_),Q_M15,Q_M16⟩
     refine steps_cons ?_ ?_
     ·rintro b a w' ⟨E,ha,Q_Z,Q_M8,Q_M9,Q_M11,Q_M11s,Q_M12,Q_M12s,Q_M13,Q_M13s,Q_M14,Q_M14s,Q_M15,Q_M16⟩ hb_ hon hoff
      refine ⟨_,rfl,fun K hK=>?_⟩
      have e16:a.tmps[16]? = some (.pointer (some ⟨g16,0,none⟩)):=by rw [ha];exact (putSel_off rfl).trans rfl
      replace ha:=Aside0.mk ha
      have Z:=Aside0.mk Q_Z
      have M8:=Aside0.mk Q_M8
      have M9:=Aside0.mk Q_M9
      have M12:=Aside0.mk (Q_M12 (hoff 10 kr_))
      have M13:=Aside0.mk (Q_M13 (hoff 11 kr_))
      have M14:=Aside0.mk (Q_M14 (hoff 12 kr_))
      have M15:=Aside0.mk Q_M15
      have M16:=Aside0.mk Q_M16
      have hc0_:=Z.out.c0 M16.out
      have hc1_:=Z.out.c1 M16.out
      refine value_ (w1:=w') (v:=.agg #[.bool t0,.string t1]) (by rfl) rfl ?_ ?_
      ·go_simp
       (try simp only [i64_w])
       try rfl
      refine hK.out _ _ ⟨E,(by rw [ha.out];exact putSel_upk 1 hb_ rfl rfl rfl),Q_Z,Q_M8,Q_M9,Q_M11,Q_M11s,Q_M12,ab_ (hoff 10 kr_),Q_M13,ab_ (hoff 11 kr_),Q_M14,ab_ (hoff 12 kr_),Q_M15,Q_M16⟩
     refine steps_cons ?_ ?_
     ·rintro b a w' ⟨E,ha,Q_Z,Q_M8,Q_M9,Q_M11,Q_M11s,Q_M12,Q_M12s,Q_M13,Q_M13s,Q_M14,Q_M14s,Q_M15,Q_M16⟩ hb_ hon hoff
      refine ⟨_,rfl,fun K hK=>?_⟩
      have e14:a.tmps[14]? = some (.pointer (some ⟨g14_,0,none⟩)):=by rw [ha];exact (putSel_off rfl).trans rfl
      replace ha:=Aside0.mk ha
      have Z:=Aside0.mk Q_Z
      have M8:=Aside0.mk Q_M8
      have M9:=Aside0.mk Q_M9
      have M13:=Aside0.mk (Q_M13 (hoff 11 kr_))
      have M14:=Aside0.mk (Q_M14 (hoff 12 kr_))
      have M15:=Aside0.mk Q_M15
      have M16:=Aside0.mk Q_M16
      have hc0_:=Z.out.c0 M14.out
      have hc1_:=Z.out.c1 M14.out
      refine value_ (w1:=w') (v:=.agg #[.bool y0,.string y1]) (by rfl) rfl ?_ ?_
      ·go_simp
       (try simp only [i64_w])
       try rfl
      refine hK.out _ _ ⟨E,(by rw [ha.out];exact putSel_upk 2 hb_ rfl rfl rfl),Q_Z,Q_M8,Q_M9,Q_M11,Q_M11s,Q_M12,Q_M12s,Q_M13,ab_ (hoff 11 kr_),Q_M14,ab_ (hoff 12 kr_),Q_M15,Q_M16⟩
     refine steps_cons ?_ ?_
     ·rintro b a w' ⟨E,ha,Q_Z,Q_M8,Q_M9,Q_M11,Q_M11s,Q_M12,Q_M12s,Q_M13,Q_M13s,Q_M14,Q_M14s,Q_M15,Q_M16⟩ hb_ hon hoff
      refine ⟨_,rfl,fun K hK=>?_⟩
      have e13:a.tmps[13]? = some (.pointer (some ⟨g13_,0,none⟩)):=by rw [ha];exact (putSel_off rfl).trans rfl
      replace ha:=Aside0.mk ha
      have Z:=Aside0.mk Q_Z
      have M8:=Aside0.mk Q_M8
      have M9:=Aside0.mk Q_M9
      have M11:=Aside0.mk (Q_M11 (hoff 9 kr_))
      have M12:=Aside0.mk (Q_M12 (hoff 10 kr_))
      have M13:=Aside0.mk (Q_M13 (hoff 11 kr_))
      have M14:=Aside0.mk (Q_M14 (hoff 12 kr_))
      have M15:=Aside0.mk Q_M15
      have M16:=Aside0.mk Q_M16
      have hc0_:=Z.out.c0 M13.out
      have hc1_:=Z.out.c1 M13.out
      refine value_ (w1:=w') (v:=.agg #[.bool x0,.string x1]) (by rfl) rfl ?_ ?_
      ·go_simp
       (try simp only [i64_w])
       try rfl
      refine hK.out _ _ ⟨E,(by rw [ha.out];exact putSel_upk 3 hb_ rfl rfl rfl),Q_Z,Q_M8,Q_M9,Q_M11,ab_ (hoff 9 kr_),Q_M12,ab_ (hoff 10 kr_),Q_M13,ab_ (hoff 11 kr_),Q_M14,ab_ (hoff 12 kr_),Q_M15,Q_M16⟩
     refine steps_cons ?_ ?_
     ·rintro b a w' ⟨E,ha,Q_Z,Q_M8,Q_M9,Q_M11,Q_M11s,Q_M12,Q_M12s,Q_M13,Q_M13s,Q_M14,Q_M14s,Q_M15,Q_M16⟩ hb_ hon hoff
      refine ⟨_,rfl,fun K hK=>?_⟩
      have e15:a.tmps[15]? = some (.pointer (some ⟨g15,0,none⟩)):=by rw [ha];exact (putSel_off rfl).trans rfl
      replace ha:=Aside0.mk ha
      have Z:=Aside0.mk Q_Z
      have M8:=Aside0.mk Q_M8
      have M9:=Aside0.mk Q_M9
      have M11:=Aside0.mk (Q_M11 (hoff 9 kr_))
      have M12:=Aside0.mk (Q_M12 (hoff 10 kr_))
      have M13:=Aside0.mk (Q_M13 (hoff 11 kr_))
      have M14:=Aside0.mk (Q_M14 (hoff 12 kr_))
      have M15:=Aside0.mk Q_M15
      have M16:=Aside0.mk Q_M16
      have hc0_:=Z.out.c0 M15.out
      have hc1_:=Z.out.c1 M15.out
      refine value_ (w1:=w') (v:=.agg #[.bool q0,.string q1]) (by rfl) rfl ?_ ?_
      ·go_simp
       (try simp only [i64_w])
       try rfl
      refine hK.out _ _ ⟨E,(by rw [ha.out];exact putSel_upk 4 hb_ rfl rfl rfl),Q_Z,Q_M8,Q_M9,Q_M11,ab_ (hoff 9 kr_),Q_M12,ab_ (hoff 10 kr_),Q_M13,ab_ (hoff 11 kr_),Q_M14,ab_ (hoff 12 kr_),Q_M15,Q_M16⟩
     refine steps_cons ?_ ?_
     ·rintro b a w' ⟨E,ha,Q_Z,Q_M8,Q_M9,Q_M11,Q_M11s,Q_M12,Q_M12s,Q_M13,Q_M13s,Q_M14,Q_M14s,Q_M15,Q_M16⟩ hb_ hon hoff
      refine ⟨_,rfl,fun K hK=>?_⟩
      have e14:a.tmps[14]? = some (.pointer (some ⟨g14_,0,none⟩)):=by rw [ha];exact (putSel_off rfl).trans rfl
      replace ha:=Aside0.mk ha
      have Z:=Aside0.mk Q_Z
      have M8:=Aside0.mk Q_M8
      have M9:=Aside0.mk Q_M9
      have M11:=Aside0.mk (Q_M11 (hoff 9 kr_))
      have M12:=Aside0.mk (Q_M12 (hoff 10 kr_))
      have M13:=Aside0.mk (Q_M13 (hoff 11 kr_))
      have M14:=Aside0.mk (Q_M14 (hoff 12 kr_))
      have M15:=Aside0.mk Q_M15
      have M16:=Aside0.mk Q_M16
      have hc0_:=Z.out.c0 M14.out
      have hc1_:=Z.out.c1 M14.out
      refine value_ (w1:=w') (v:=.agg #[.bool y0,.string y1]) (by rfl) rfl ?_ ?_
      ·go_simp
       (try simp only [i64_w])
       try rfl
      refine hK.out _ _ ⟨E,(by rw [ha.out];exact putSel_upk 5 hb_ rfl rfl rfl),Q_Z,Q_M8,Q_M9,Q_M11,ab_ (hoff 9 kr_),Q_M12,ab_ (hoff 10 kr_),Q_M13,ab_ (hoff 11 kr_),Q_M14,ab_ (hoff 12 kr_),Q_M15,Q_M16⟩
     refine steps_cons ?_ ?_
     ·rintro b a w' ⟨E,ha,Q_Z,Q_M8,Q_M9,Q_M11,Q_M11s,Q_M12,Q_M12s,Q_M13,Q_M13s,Q_M14,Q_M14s,Q_M15,Q_M16⟩ hb_ hon hoff
      refine ⟨_,rfl,fun K hK=>?_⟩
      have e62:a.tmps[62]? = some (.agg #[.bool q0,.string q1]):=by rw [ha];exact putSel_on (e:=(4,62,.agg #[.bool q0,.string q1])) 4 rfl rfl (hon 4 kr_) rfl
      have e63:a.tmps[63]? = some (.agg #[.bool y0,.string y1]):=by rw [ha];exact putSel_on (e:=(5,63,.agg #[.bool y0,.string y1])) 5 rfl rfl (hon 5 kr_) rfl
      replace ha:=Aside0.mk ha
      have Z:=Aside0.mk Q_Z
      have M8:=Aside0.mk Q_M8
      have M9:=Aside0.mk Q_M9
      have M11:=Aside0.mk (Q_M11 (hoff 9 kr_))
      have M12:=Aside0.mk (Q_M12 (hoff 10 kr_))
      have M13:=Aside0.mk (Q_M13 (hoff 11 kr_))
      have M14:=Aside0.mk (Q_M14 (hoff 12 kr_))
      have M15:=Aside0.mk Q_M15
      have M16:=Aside0.mk Q_M16
      refine goes_ Tryz.func57 kr_ rfl #[.agg #[.bool q0,.string q1],.agg #[.bool y0,.string y1]] (by rfl) rfl rfl (by first|(simp only [List.map_toArray,List.map_cons,List.map_nil,Act.eval,Array.getD_eq_getD_getElem?,Option.getD_some,e62,e63];done)|(simp only [List.map_toArray,List.map_cons,List.map_nil,Act.eval,Array.getD_eq_getD_getElem?,Option.getD_some,e62,e63];rfl)) ?_
      with_reducible refine (integer_number_times.calls q0 q1 y0 y1 p0 p1 _ (HLW.out.below Z.out.bel) Hp.out).mono ?_
      rintro e_ wb ⟨rfl,hb⟩
      refine ⟨_,rfl,?_⟩
      refine hK.out _ _ ⟨E,(by rw [ha.out];exact putSel_upk 6 hb_ rfl rfl rfl),(Z.out.step hb),Q_M8,Q_M9,Q_M11,ab_ (hoff 9 kr_),Q_M12,ab_ (hoff 10 kr_),Q_M13,ab_ (hoff 11 kr_),Q_M14,ab_ (hoff 12 kr_),Q_M15,Q_M16⟩
     refine steps_cons ?_ ?_
     ·rintro b a w' ⟨E,ha,Q_Z,Q_M8,Q_M9,Q_M11,Q_M11s,Q_M12,Q_M12s,Q_M13,Q_M13s,Q_M14,Q_M14s,Q_M15,Q_M16⟩ hb_ hon hoff
      refine ⟨_,rfl,fun K hK=>?_⟩
      have e64:a.tmps[64]? = some (.agg #[.bool p0,.string p1]):=by rw [ha];exact putSel_on (e:=(6,64,.agg #[.bool p0,.string p1])) 6 rfl rfl (hon 6 kr_) rfl
      replace ha:=Aside0.mk ha
      have Z:=Aside0.mk Q_Z
      have M8:=Aside0.mk Q_M8
      have M9:=Aside0.mk Q_M9
      have M11:=Aside0.mk (Q_M11 (hoff 9 kr_))
      have M12:=Aside0.mk (Q_M12 (hoff 10 kr_))
      have M13:=Aside0.mk (Q_M13 (hoff 11 kr_))
      have M14:=Aside0.mk (Q_M14 (hoff 12 kr_))
      have M15:=Aside0.mk Q_M15
      have M16:=Aside0.mk Q_M16
      refine goes_ Tryz.func45 kr_ rfl #[.agg #[.bool p0,.string p1]] (by rfl) rfl rfl (by first|(simp only [List.map_toArray,List.map_cons,List.map_nil,Act.eval,Array.getD_eq_getD_getElem?,Option.getD_some,e64];done)|(simp only [List.map_toArray,List.map_cons,List.map_nil,Act.eval,Array.getD_eq_getD_getElem?,Option.getD_some,e64];rfl)) ?_
      with_reducible refine (integer_number_opposite.calls p0 p1 o0 o1 _ Ho.out).mono ?_
      rintro e_ wb ⟨rfl,hb⟩
      refine ⟨_,rfl,?_⟩
      refine hK.out _ _ ⟨E,(by rw [ha.out];exact putSel_upk 7 hb_ rfl rfl rfl),(Z.out.step hb),Q_M8,Q_M9,Q_M11,ab_ (hoff 9 kr_),Q_M12,ab_ (hoff 10 kr_),Q_M13,ab_ (hoff 11 kr_),Q_M14,ab_ (hoff 12 kr_),Q_M15,Q_M16⟩
     refine steps_cons ?_ ?_
     ·rintro b a w' ⟨E,ha,Q_Z,Q_M8,Q_M9,Q_M11,Q_M11s,Q_M12,Q_M12s,Q_M13,Q_M13s,Q_M14,Q_M14s,Q_M15,Q_M16⟩ hb_ hon hoff
      refine ⟨_,rfl,fun K hK=>?_⟩
      have e61:a.tmps[61]? = some (.agg #[.bool x0,.string x1]):=by rw [ha];exact putSel_on (e:=(3,61,.agg #[.bool x0,.string x1])) 3 rfl rfl (hon 3 kr_) rfl
      have e65:a.tmps[65]? = some (.agg #[.bool o0,.string o1]):=by rw [ha];exact putSel_on (e:=(7,65,.agg #[.bool o0,.string o1])) 7 rfl rfl (hon 7 kr_) rfl
      replace ha:=Aside0.mk ha
      have Z:=Aside0.mk Q_Z
      have M8:=Aside0.mk Q_M8
      have M9:=Aside0.mk Q_M9
      have M11:=Aside0.mk (Q_M11 (hoff 9 kr_))
      have M12:=Aside0.mk (Q_M12 (hoff 10 kr_))
      have M13:=Aside0.mk (Q_M13 (hoff 11 kr_))
      have M14:=Aside0.mk (Q_M14 (hoff 12 kr_))
      have M15:=Aside0.mk Q_M15
      have M16:=Aside0.mk Q_M16
      refine goes_ Tryz.func52 kr_ rfl #[.agg #[.bool x0,.string x1],.agg #[.bool o0,.string o1]] (by rfl) rfl rfl (by first|(simp only [List.map_toArray,List.map_cons,List.map_nil,Act.eval,Array.getD_eq_getD_getElem?,Option.getD_some,e61,e65];done)|(simp only [List.map_toArray,List.map_cons,List.map_nil,Act.eval,Array.getD_eq_getD_getElem?,Option.getD_some,e61,e65];rfl)) ?_
      with_reducible refine (integer_number_plus.calls x0 x1 o0 o1 z0 z1 _ (HLW.out.below Z.out.bel) Hz.out).mono ?_
      rintro e_ wb ⟨rfl,hb⟩
      refine ⟨_,rfl,?_⟩
      refine hK.out _ _ ⟨E,(by rw [ha.out];exact putSel_upk 8 hb_ rfl rfl rfl),(Z.out.step hb),Q_M8,Q_M9,Q_M11,ab_ (hoff 9 kr_),Q_M12,ab_ (hoff 10 kr_),Q_M13,ab_ (hoff 11 kr_),Q_M14,ab_ (hoff 12 kr_),Q_M15,Q_M16⟩
     refine steps_cons ?_ ?_
     ·rintro b a w' ⟨E,ha,Q_Z,Q_M8,Q_M9,Q_M11,Q_M11s,Q_M12,Q_M12s,Q_M13,Q_M13s,Q_M14,Q_M14s,Q_M15,Q_M16⟩ hb_ hon hoff
      refine ⟨_,rfl,fun K hK=>?_⟩
      have e11:a.tmps[11]? = some (.pointer (some ⟨g11_,0,none⟩)):=by rw [ha];exact (putSel_off rfl).trans rfl
      have e58:a.tmps[58]? = some (.agg #[.bool s0,.string s1]):=by rw [ha];exact putSel_on (e:=(0,58,.agg #[.bool s0,.string s1])) 0 rfl rfl (hon 0 kr_) rfl
      replace ha:=Aside0.mk ha
      have Z:=Aside0.mk Q_Z
      have M8:=Aside0.mk Q_M8
      have M9:=Aside0.mk Q_M9
      have M11:=Aside0.mk (Q_M11 hb_)
      have M12:=Aside0.mk (Q_M12 (hoff 10 kr_))
      have M13:=Aside0.mk (Q_M13 (hoff 11 kr_))
      have M14:=Aside0.mk (Q_M14 (hoff 12 kr_))
      have M15:=Aside0.mk Q_M15
      have M16:=Aside0.mk Q_M16
      have hc0_:=Z.out.c0 M11.out
      have hc1_:=Z.out.c1 M11.out
      have hz0_:=Z.out.z0 M11.out
      have hz1_:=Z.out.z1 M11.out
      refine skip_ (w1:=?_) (by rfl) rfl ?_ ?_
      rotate_left
      ·go_simp
       rfl
      refine hK.out _ _ ⟨upd E 11 s0 s1,(by rw [ha.out];exact putSel_none (v:=undef) rfl),(Z.out.set M11.out s0 s1),(upd_mem_ne M8.out sm_ _ _),(upd_mem_ne M9.out sm_ _ _),fun h0_=>absurd ((up_self b 9).symm.trans h0_) de_,fun _=>(upd_mem M11.out _ _),fun _=>(upd_mem_ne M12.out sm_ _ _),ab_ (hoff 10 kr_),fun _=>(upd_mem_ne M13.out sm_ _ _),ab_ (hoff 11 kr_),fun _=>(upd_mem_ne M14.out sm_ _ _),ab_ (hoff 12 kr_),(upd_mem_ne M15.out sm_ _ _),(upd_mem_ne M16.out sm_ _ _)⟩
     refine steps_cons ?_ ?_
     ·rintro b a w' ⟨E,ha,Q_Z,Q_M8,Q_M9,Q_M11,Q_M11s,Q_M12,Q_M12s,Q_M13,Q_M13s,Q_M14,Q_M14s,Q_M15,Q_M16⟩ hb_ hon hoff
      refine ⟨_,rfl,fun K hK=>?_⟩
      have e12:a.tmps[12]? = some (.pointer (some ⟨g12_,0,none⟩)):=by rw [ha];exact (putSel_off rfl).trans rfl
      have e59:a.tmps[59]? = some (.agg #[.bool t0,.string t1]):=by rw [ha];exact putSel_on (e:=(1,59,.agg #[.bool t0,.string t1])) 1 rfl rfl (hon 1 kr_) rfl
      replace ha:=Aside0.mk ha
      have Z:=Aside0.mk Q_Z
      have M8:=Aside0.mk Q_M8
      have M9:=Aside0.mk Q_M9
      have M11s:=Aside0.mk (Q_M11s (hon 9 kr_))
      have M12:=Aside0.mk (Q_M12 hb_)
      have M13:=Aside0.mk (Q_M13 (hoff 11 kr_))
      have M14:=Aside0.mk (Q_M14 (hoff 12 kr_))
      have M15:=Aside0.mk Q_M15
      have M16:=Aside0.mk Q_M16
      have hc0_:=Z.out.c0 M12.out
      have hc1_:=Z.out.c1 M12.out
      have hz0_:=Z.out.z0 M12.out
      have hz1_:=Z.out.z1 M12.out
      refine skip_ (w1:=?_) (by rfl) rfl ?_ ?_
      rotate_left
      ·go_simp
       rfl
      refine hK.out _ _ ⟨upd E 12 t0 t1,(by rw [ha.out];exact putSel_none (v:=undef) rfl),(Z.out.set M12.out t0 t1),(upd_mem_ne M8.out sm_ _ _),(upd_mem_ne M9.out sm_ _ _),an_ (hon 9 kr_),fun _=>(upd_mem_ne M11s.out sm_ _ _),fun h0_=>absurd ((up_self b 10).symm.trans h0_) de_,fun _=>(upd_mem M12.out _ _),fun _=>(upd_mem_ne M13.out sm_ _ _),ab_ (hoff 11 kr_),fun _=>(upd_mem_ne M14.out sm_ _ _),ab_ (hoff 12 kr_),(upd_mem_ne M15.out sm_ _ _),(upd_mem_ne M16.out sm_ _ _)⟩
     refine steps_cons ?_ ?_
     ·rintro b a w' ⟨E,ha,Q_Z,Q_M8,Q_M9,Q_M11,Q_M11s,Q_M12,Q_M12s,Q_M13,Q_M13s,Q_M14,Q_M14s,Q_M15,Q_M16⟩ hb_ hon hoff
      refine ⟨_,rfl,fun K hK=>?_⟩
      have e13:a.tmps[13]? = some (.pointer (some ⟨g13_,0,none⟩)):=by rw [ha];exact (putSel_off rfl).trans rfl
      have e60:a.tmps[60]? = some (.agg #[.bool y0,.string y1]):=by rw [ha];exact putSel_on (e:=(2,60,.agg #[.bool y0,.string y1])) 2 rfl rfl (hon 2 kr_) rfl
      replace ha:=Aside0.mk ha
      have Z:=Aside0.mk Q_Z
      have M8:=Aside0.mk Q_M8
      have M9:=Aside0.mk Q_M9
      have M11s:=Aside0.mk (Q_M11s (hon 9 kr_))
      have M12s:=Aside0.mk (Q_M12s (hon 10 kr_))
      have M13:=Aside0.mk (Q_M13 hb_)
      have M14:=Aside0.mk (Q_M14 (hoff 12 kr_))
      have M15:=Aside0.mk Q_M15
      have M16:=Aside0.mk Q_M16
      have hc0_:=Z.out.c0 M13.out
      have hc1_:=Z.out.c1 M13.out
      have hz0_:=Z.out.z0 M13.out
      have hz1_:=Z.out.z1 M13.out
      refine skip_ (w1:=?_) (by rfl) rfl ?_ ?_
      rotate_left
      ·go_simp
       rfl
      refine hK.out _ _ ⟨upd E 13 y0 y1,(by rw [ha.out];exact putSel_none (v:=undef) rfl),(Z.out.set M13.out y0 y1),(upd_mem_ne M8.out sm_ _ _),(upd_mem_ne M9.out sm_ _ _),an_ (hon 9 kr_),fun _=>(upd_mem_ne M11s.out sm_ _ _),an_ (hon 10 kr_),fun _=>(upd_mem_ne M12s.out sm_ _ _),fun h0_=>absurd ((up_self b 11).symm.trans h0_) de_,fun _=>(upd_mem M13.out _ _),fun _=>(upd_mem_ne M14.out sm_ _ _),ab_ (hoff 12 kr_),(upd_mem_ne M15.out sm_ _ _),(upd_mem_ne M16.out sm_ _ _)⟩
     refine steps_cons ?_ ?_
     ·rintro b a w' ⟨E,ha,Q_Z,Q_M8,Q_M9,Q_M11,Q_M11s,Q_M12,Q_M12s,Q_M13,Q_M13s,Q_M14,Q_M14s,Q_M15,Q_M16⟩ hb_ hon hoff
      refine ⟨_,rfl,fun K hK=>?_⟩
      have e14:a.tmps[14]? = some (.pointer (some ⟨g14_,0,none⟩)):=by rw [ha];exact (putSel_off rfl).trans rfl
      have e66:a.tmps[66]? = some (.agg #[.bool z0,.string z1]):=by rw [ha];exact putSel_on (e:=(8,66,.agg #[.bool z0,.string z1])) 8 rfl rfl (hon 8 kr_) rfl
      replace ha:=Aside0.mk ha
      have Z:=Aside0.mk Q_Z
      have M8:=Aside0.mk Q_M8
      have M9:=Aside0.mk Q_M9
      have M11s:=Aside0.mk (Q_M11s (hon 9 kr_))
      have M12s:=Aside0.mk (Q_M12s (hon 10 kr_))
      have M13s:=Aside0.mk (Q_M13s (hon 11 kr_))
      have M14:=Aside0.mk (Q_M14 hb_)
      have M15:=Aside0.mk Q_M15
      have M16:=Aside0.mk Q_M16
      have hc0_:=Z.out.c0 M14.out
      have hc1_:=Z.out.c1 M14.out
      have hz0_:=Z.out.z0 M14.out
      have hz1_:=Z.out.z1 M14.out
      refine skip_ (w1:=?_) (by rfl) rfl ?_ ?_
      rotate_left
      ·go_simp
       rfl
      refine hK.out _ _ ⟨upd E 14 z0 z1,(by rw [ha.out];exact putSel_none (v:=undef) rfl),(Z.out.set M14.out z0 z1),(upd_mem_ne M8.out sm_ _ _),(upd_mem_ne M9.out sm_ _ _),an_ (hon 9 kr_),fun _=>(upd_mem_ne M11s.out sm_ _ _),an_ (hon 10 kr_),fun _=>(upd_mem_ne M12s.out sm_ _ _),an_ (hon 11 kr_),fun _=>(upd_mem_ne M13s.out sm_ _ _),fun h0_=>absurd ((up_self b 12).symm.trans h0_) de_,fun _=>(upd_mem M14.out _ _),(upd_mem_ne M15.out sm_ _ _),(upd_mem_ne M16.out sm_ _ _)⟩
     exact steps_nil
    rintro b a w9 hall ⟨E,ha,Q_Z,Q_M8,Q_M9,Q_M11,Q_M11s,Q_M12,Q_M12s,Q_M13,Q_M13s,Q_M14,Q_M14s,Q_M15,Q_M16⟩
    clear M11 M12 M13 M14 M15 M16 M8 M9 Z
    have hb0_:=hall 0 kr_
    have hb1_:=hall 1 kr_
    have hb2_:=hall 2 kr_
    have hb3_:=hall 3 kr_
    have hb4_:=hall 4 kr_
    have hb5_:=hall 5 kr_
    have hb6_:=hall 6 kr_
    have hb7_:=hall 7 kr_
    have hb8_:=hall 8 kr_
    have hb9_:=hall 9 kr_
    have hb10_:=hall 10 kr_
    have hb11_:=hall 11 kr_
    have hb12_:=hall 12 kr_
    subst ha
    simp only [putSel,hb0_,hb1_,hb2_,hb3_,hb4_,hb5_,hb6_,hb7_,hb8_,hb9_,hb10_,hb11_,hb12_,if_true,Act.put,List.setIfInBounds_toArray,List.set_cons_zero,List.set_cons_succ]
    have Z:=Aside0.mk Q_Z
    clear Q_Z
    have M8:=Aside0.mk Q_M8
    clear Q_M8
    have M9:=Aside0.mk Q_M9
    clear Q_M9
    clear Q_M11
    have M11s:=Aside0.mk (Q_M11s hb9_)
    clear Q_M11s
    clear Q_M12
    have M12s:=Aside0.mk (Q_M12s hb10_)
    clear Q_M12s
    clear Q_M13
    have M13s:=Aside0.mk (Q_M13s hb11_)
    clear Q_M13s
    clear Q_M14
    have M14s:=Aside0.mk (Q_M14s hb12_)
    clear Q_M14s
    have M15:=Aside0.mk Q_M15
    clear Q_M15
    have M16:=Aside0.mk Q_M16
    clear Q_M16
    clear hall hb0_ hb1_ hb2_ hb3_ hb4_ hb5_ hb6_ hb7_ hb8_ hb9_ hb10_ hb11_ hb12_
    go_wp2
    go_roundg kk
    case measure=>have:=HK.out;omega
    case rel=>exact ⟨s0,s1,t0,t1,y0,y1,z0,z1,HN,⟨by have:=HK.out;omega⟩,⟨(Z.out.sub (D:=[((8,g8,n0,n1):Ent),((9,g9,m0,m1):Ent),((11,g11_,s0,s1):Ent),((12,g12_,t0,t1):Ent),((13,g13_,y0,y1):Ent),((14,g14_,z0,z1):Ent)]) (by intro e he;simp only [List.mem_cons,List.not_mem_nil,or_false] at he;rcases he with rfl|rfl|rfl|rfl|rfl|rfl<;>(first|exact M8.out|exact M9.out|exact M11s.out|exact M12s.out|exact M13s.out|exact M14s.out)))⟩⟩
end Go.Proofs.YtaknchlegjcdhaaGreatDoor.Pr
namespace Go.Proofs.YtaknchlegjcdhaaGreatDoor.Pr
open Go.RowKit Go.Lib Go.Proofs.YtaknchlegjcdhaaGreatDoorW.PrintWords Go.Proofs.YtaknchlegjcdhaaGreatDoorW.PrintLast Go.Proofs.YtaknchlegjcdhaaGreatDoorW.PrintMore
attribute [local go_sem] max2_int min2_int max_two min_two max_three min_three max_four min_four
set_option maxHeartbeats 8000000
set_option maxRecDepth 100000
set_option linter.unusedVariables false
set_option linter.unusedSimpArgs false
def bezG.T5:Bool × List (List Nat × List Nat):=(true,[([],[]),([0],[0]),([],[]),([2],[2]),([3,3],[3]),([1,4,0,1],[1]),([4,5,0,1,2,3,4,5],[4]),([6,0,1,2,3,4,5,6],[]),([7,0,1,2,3,4,5,6,7],[])])
def bezG.B5:List Nat:=[0,1,0,4,12,31,63,127,255]
theorem bezG.tab5:rtab .any (opsOf Tryz.f32 5) = bezG.T5:=by kernel_rfl
theorem bezG.bits5:waitsOk bezG.T5.2 bezG.B5 = true:=by kernel_rfl
theorem bez_bad (k:Nat) (a b n1 m1:ByteArray) (n0 m0:Bool) (ev:Int) (he:ev≠0) (w:World) (hL:LaidW w) (hboth:integer_both.f k a b = some (n0,n1,m0,m1,ev)) :
  Calls Tryz.prog 32 #[.string a,.string b] w fun e w'=>e = .returned (.tuple #[.string (⟨#[]⟩:ByteArray),.string (⟨#[]⟩:ByteArray),.string (⟨#[]⟩:ByteArray),.int .i64 ev])∧Below w.heap.size w w':=by
 have hu43:=Tryz.underlying43
 have HLW:=Aside0.mk hL
 have HBO:=Aside0.mk hboth
 clear hL hboth
 go_enter Tryz.func32,Tryz.ntmps32
 have h0:(ev != 0) = true:=bne_iff_ne.2 he
 go_wp2_with (first|((with_reducible refine gate_callee (f:=51) rfl ?_);refine gm_ (some 24) Tryz.func51 #[.string a,.string b] ?_;(with_reducible refine (integer_both.calls k a b n0 n1 m0 m1 ev _ HBO.out).mono ?_);rintro e_ wb ⟨rfl,hb⟩;refine ⟨_,rfl,?_⟩;have Z1:=Aside0.mk ((Lies.nil w).step hb);clear hb)|((with_reducible refine gate_dst (N:=8) rfl ?_);refine box_event ?hg (N:=8) ?hd (cs:=#[.bool false,.string (⟨#[]⟩:ByteArray)]) (t:=43) ?hr ?_;(case hd=>rfl);(case hg=>rfl);(case hr=>first|(go_simp;done)|(go_simp;rfl));intro g8 hg wb hbox hb;have Z2:=Aside0.mk (Z1.out.alloc 8 g8 sm_ hg hbox hb);clear hg hbox hb)|((with_reducible refine gate_dst (N:=9) rfl ?_);refine box_event ?hg (N:=9) ?hd (cs:=#[.bool false,.string (⟨#[]⟩:ByteArray)]) (t:=43) ?hr ?_;(case hd=>rfl);(case hg=>rfl);(case hr=>first|(go_simp;done)|(go_simp;rfl));intro g9 hg wb hbox hb;have Z3:=Aside0.mk (Z2.out.alloc 9 g9 sm_ hg hbox hb);clear hg hbox hb)|((with_reducible refine gate_store (t:=43) (p:=8) (v:=.tmp 25) rfl ?_);refine store_row rfl 43 (.tmp 8) (.tmp 25) rfl rfl g8 #[.bool n0,.string n1] rfl rfl 43 _ (Z3.out.at_ ((8,g8,false,(⟨#[]⟩:ByteArray)):Ent) (show ((8,g8,false,(⟨#[]⟩:ByteArray)):Ent) ∈ _ from List.mem_cons_of_mem _ List.mem_cons_self)) kr_ (by rfl) (by simp [Value.oneCell']) ?_;intro w4 hbx hG;have Z4:=Aside0.mk (Z3.out.grown (show ((8,g8,false,(⟨#[]⟩:ByteArray)):Ent) ∈ _ from List.mem_cons_of_mem _ List.mem_cons_self) n0 n1 hbx hG);clear hbx hG)|((with_reducible refine gate_store (t:=43) (p:=9) (v:=.tmp 26) rfl ?_);refine store_row rfl 43 (.tmp 9) (.tmp 26) rfl rfl g9 #[.bool m0,.string m1] rfl rfl 43 _ (Z4.out.at_ ((9,g9,false,(⟨#[]⟩:ByteArray)):Ent) (upd_mem_ne (e:=((9,g9,false,(⟨#[]⟩:ByteArray)):Ent)) List.mem_cons_self sm_ _ _)) kr_ (by rfl) (by simp [Value.oneCell']) ?_;intro w5 hbx hG;have Z5:=Aside0.mk (Z4.out.grown (upd_mem_ne (e:=((9,g9,false,(⟨#[]⟩:ByteArray)):Ent)) List.mem_cons_self sm_ _ _) m0 m1 hbx hG);clear hbx hG))
 refine bodyPost_ret (results_list (rs:=[.tmp 4,.tmp 5,.tmp 6,.tmp 7]) rfl sm_ (.tmp (.tmp (.tmp (.tmp .nil))))) rfl ?_
 exact ⟨rfl,Z5.out.bel⟩
theorem bez_zero (k:Nat) (a b n1 m1:ByteArray) (n0 m0:Bool) (ev:Int) (s:Int) (t:ByteArray) (hev:ev = 0) (hz:(m0 == false && (m1.toList == ([48]:List UInt8))) = true) (hs:integer_number_sign.f n0 n1 = some s) (ht:integer_From.f s = some t) (w:World) (hL:LaidW w) (hboth:integer_both.f k a b = some (n0,n1,m0,m1,ev)) :
  Calls Tryz.prog 32 #[.string a,.string b] w fun e w'=>e = .returned (.tuple #[.string n1,.string t,.string (⟨#[48]⟩:ByteArray),.int .i64 0])∧Below w.heap.size w w':=by
 have hu43:=Tryz.underlying43
 have HLW:=Aside0.mk hL
 have HBO:=Aside0.mk hboth
 clear hL hboth
 go_enter Tryz.func32,Tryz.ntmps32
 subst hev
 have HC:=Aside0.mk hz
 have HS:=Aside0.mk hs
 have HT:=Aside0.mk ht
 clear hz hs ht
 go_upto_region 4 with (first|((with_reducible refine gate_callee (f:=51) rfl ?_);refine gm_ (some 24) Tryz.func51 #[.string a,.string b] ?_;(with_reducible refine (integer_both.calls k a b n0 n1 m0 m1 0 _ HBO.out).mono ?_);rintro e_ wb ⟨rfl,hb⟩;refine ⟨_,rfl,?_⟩;have Z1:=Aside0.mk ((Lies.nil w).step hb);clear hb)|((with_reducible refine gate_dst (N:=8) rfl ?_);refine box_event ?hg (N:=8) ?hd (cs:=#[.bool false,.string (⟨#[]⟩:ByteArray)]) (t:=43) ?hr ?_;(case hd=>rfl);(case hg=>rfl);(case hr=>first|(go_simp;done)|(go_simp;rfl));intro g8 hg wb hbox hb;have Z2:=Aside0.mk (Z1.out.alloc 8 g8 sm_ hg hbox hb);clear hg hbox hb)|((with_reducible refine gate_dst (N:=9) rfl ?_);refine box_event ?hg (N:=9) ?hd (cs:=#[.bool false,.string (⟨#[]⟩:ByteArray)]) (t:=43) ?hr ?_;(case hd=>rfl);(case hg=>rfl);(case hr=>first|(go_simp;done)|(go_simp;rfl));intro g9 hg wb hbox hb;have Z3:=Aside0.mk (Z2.out.alloc 9 g9 sm_ hg hbox hb);clear hg hbox hb)|((with_reducible refine gate_store (t:=43) (p:=8) (v:=.tmp 25) rfl ?_);refine store_row rfl 43 (.tmp 8) (.tmp 25) rfl rfl g8 #[.bool n0,.string n1] rfl rfl 43 _ (Z3.out.at_ ((8,g8,false,(⟨#[]⟩:ByteArray)):Ent) (show ((8,g8,false,(⟨#[]⟩:ByteArray)):Ent) ∈ _ from List.mem_cons_of_mem _ List.mem_cons_self)) kr_ (by rfl) (by simp [Value.oneCell']) ?_;intro w4 hbx hG;have Z4:=Aside0.mk (Z3.out.grown (show ((8,g8,false,(⟨#[]⟩:ByteArray)):Ent) ∈ _ from List.mem_cons_of_mem _ List.mem_cons_self) n0 n1 hbx hG);clear hbx hG)|((with_reducible refine gate_store (t:=43) (p:=9) (v:=.tmp 26) rfl ?_);refine store_row rfl 43 (.tmp 9) (.tmp 26) rfl rfl g9 #[.bool m0,.string m1] rfl rfl 43 _ (Z4.out.at_ ((9,g9,false,(⟨#[]⟩:ByteArray)):Ent) (upd_mem_ne (e:=((9,g9,false,(⟨#[]⟩:ByteArray)):Ent)) List.mem_cons_self sm_ _ _)) kr_ (by rfl) (by simp [Value.oneCell']) ?_;intro w5 hbx hG;have Z5:=Aside0.mk (Z4.out.grown (upd_mem_ne (e:=((9,g9,false,(⟨#[]⟩:ByteArray)):Ent)) List.mem_cons_self sm_ _ _) m0 m1 hbx hG);clear hbx hG))
 have Z:=Aside0.mk (Z5.out.sub (D:=[((8,g8,n0,n1):Ent),((9,g9,m0,m1):Ent)]) (by simp [upd]))
 clear Z1 Z2 Z3 Z4 Z5
 have M8:=Aside0.mk (show ((8,g8,n0,n1):Ent) ∈ [((8,g8,n0,n1):Ent),((9,g9,m0,m1):Ent)] by simp)
 have M9:=Aside0.mk (show ((9,g9,m0,m1):Ent) ∈ [((8,g8,n0,n1):Ent),((9,g9,m0,m1):Ent)] by simp)
 have Zd:=Aside0.mk Z.out.drew
 refine start_ (n:=4) (S:=fun w'=>w'.cell? ⟨g9,0,none⟩ = some (.bool m0)∧w'.cell? ⟨g9,1,none⟩ = some (.string m1)) (ds:=[]) #[false,false,false,false] kr_ rfl rfl ⟨Zd.out.c0 M9.out,Zd.out.c1 M9.out⟩ (fun hHeld=>?_)
 generalize w5.drew = wd at Zd hHeld ⊢
 refine tk2_ 0 (some 33) #[true,false,false,false] hHeld ?_
 refine oc_ 1 (some 34) #[true,true,false,false] Tryz.func59 #[] (fun K hK=>?_)
 with_reducible refine (integer_zero.calls false (⟨#[48]⟩:ByteArray) _ rfl).mono ?_
 rintro e_ w6 ⟨rfl,hb⟩
 refine ⟨_,rfl,?_⟩
 replace Z:=Aside0.mk (Zd.out.step hb)
 clear Zd hb
 refine hK.out _ _ ⟨Z.out.c0 M9.out,Z.out.c1 M9.out⟩ (fun hHeld=>?_)
 clear hK K
 refine norm_ (a':=?_) ?_ ?_
 rotate_left
 ·show Act.put _ (some 34) _ = _
  simp only [Act.put,List.setIfInBounds_toArray,List.set_cons_zero,List.set_cons_succ,i64_w,i32_w]
  rfl
 refine pure_ (i:=2) (N:=some 35) (v:=.bool true) (a':=?_) #[true,true,true,false] rfl rfl kr_ (fun _ _ _ h=>h) (Or.inl ⟨by rfl,?_⟩) ?_ ?_
 ·intro w'
  have hh:=HC.out
  go_simp
  first|(with_reducible rfl)|(revert hh;cases m0<;>(try simp)<;>(try (intro h1;simp [h1])))
 rotate_left
 ·simp only [Act.put,List.setIfInBounds_toArray,List.set_cons_zero,List.set_cons_succ,i64_w,i32_w]
  rfl
 refine pure_ (i:=3) (N:=some 32) (v:=.bool true) (a':=?_) #[true,true,true,true] rfl rfl kr_ (fun _ _ _ h=>h) (Or.inl ⟨by rfl,?_⟩) ?_ ?_
 ·intro w'
  go_simp
  try with_reducible rfl
 rotate_left
 ·simp only [Act.put,List.setIfInBounds_toArray,List.set_cons_zero,List.set_cons_succ,i64_w,i32_w]
  rfl
 refine done_ kr_ ?_
 go_upto_region 5 with (fail)
 have Zd:=Aside0.mk Z.out.drew
 refine start_ (n:=9) (S:=fun w'=>True) (ds:=[]) #[false,false,false,false,false,false,false,false,false] kr_ rfl rfl trivial (fun hHeld=>?_)
 refine with_tabW bezG.tab5 bezG.bits5 (fun HT_ HW_=>?_)
 generalize w6.drew = wd at Zd ⊢
 refine inv_at [0,1,2,3,4,5,6,7,8] (fun a0_ b a w'=>∃ (E:List Ent),a = putSel a0_ b [(0,36,.pointer (some ⟨g8,1,none⟩)),(1,37,.string n1),(2,38,.agg #[.bool n0,.string n1]),(3,39,.int .i64 s),(4,40,.string t),(5,4,.string n1),(6,5,.string t),(7,6,.string (⟨#[48]⟩:ByteArray)),(8,7,.int .i64 0)]∧(Lies w w' E)∧(((8,g8,n0,n1):Ent) ∈ E)∧(((9,g9,m0,m1):Ent) ∈ E)) HT_.out HW_.out kr_ kr_ ?_ ?_ ?_
 ·exact ⟨[((8,g8,n0,n1):Ent),((9,g9,m0,m1):Ent)],by simp only [putSel,Bool.false_eq_true,if_false],Zd.out,M8.out,M9.out⟩
 ·skip
  clear M8 M9 Z
  refine steps_cons ?_ ?_
  ·rintro b a w' ⟨E,ha,Q_Z,Q_M8,Q_M9⟩ hb_ hon hoff
   refine ⟨_,rfl,fun K hK=>?_⟩
   have e8:a.tmps[8]? = some (.pointer (some ⟨g8,0,none⟩)):=by rw [ha];exact (putSel_off rfl).trans rfl
   replace ha:=Aside0.mk ha
   have Z:=Aside0.mk Q_Z
   have M8:=Aside0.mk Q_M8
   have M9:=Aside0.mk Q_M9
   refine value_ (w1:=w') (v:=.pointer (some ⟨g8,1,none⟩)) (by rfl) rfl ?_ ?_
   ·go_simp
    (try simp only [i64_w])
    try rfl
   refine hK.out _ _ ⟨E,(by rw [ha.out];exact putSel_upk 0 hb_ rfl rfl rfl),Q_Z,Q_M8,Q_M9⟩
  refine steps_cons ?_ ?_
  ·rintro b a w' ⟨E,ha,Q_Z,Q_M8,Q_M9⟩ hb_ hon hoff
   refine ⟨_,rfl,fun K hK=>?_⟩
   have e36:a.tmps[36]? = some (.pointer (some ⟨g8,1,none⟩)):=by rw [ha];exact putSel_on (e:=(0,36,.pointer (some ⟨g8,1,none⟩))) 0 rfl rfl (hon 0 kr_) rfl
   replace ha:=Aside0.mk ha
   have Z:=Aside0.mk Q_Z
   have M8:=Aside0.mk Q_M8
   have M9:=Aside0.mk Q_M9
   have hc0_:=Z.out.c0 M8.out
   have hc1_:=Z.out.c1 M8.out
   refine value_ (w1:=w') (v:=.string n1) (by rfl) rfl ?_ ?_
   ·go_simp
    (try simp only [i64_w])
    try rfl
   refine hK.out _ _ ⟨E,(by rw [ha.out];exact putSel_upk 1 hb_ rfl rfl rfl),Q_Z,Q_M8,Q_M9⟩
  refine steps_cons ?_ ?_
  ·rintro b a w' ⟨E,ha,Q_Z,Q_M8,Q_M9⟩ hb_ hon hoff
   refine ⟨_,rfl,fun K hK=>?_⟩
   have e8:a.tmps[8]? = some (.pointer (some ⟨g8,0,none⟩)):=by rw [ha];exact (putSel_off rfl).trans rfl
   replace ha:=Aside0.mk ha
   have Z:=Aside0.mk Q_Z
   have M8:=Aside0.mk Q_M8
   have M9:=Aside0.mk Q_M9
   have hc0_:=Z.out.c0 M8.out
   have hc1_:=Z.out.c1 M8.out
   refine value_ (w1:=w') (v:=.agg #[.bool n0,.string n1]) (by rfl) rfl ?_ ?_
   ·go_simp
    (try simp only [i64_w])
    try rfl
   refine hK.out _ _ ⟨E,(by rw [ha.out];exact putSel_upk 2 hb_ rfl rfl rfl),Q_Z,Q_M8,Q_M9⟩
  refine steps_cons ?_ ?_
  ·rintro b a w' ⟨E,ha,Q_Z,Q_M8,Q_M9⟩ hb_ hon hoff
   refine ⟨_,rfl,fun K hK=>?_⟩
   have e38:a.tmps[38]? = some (.agg #[.bool n0,.string n1]):=by rw [ha];exact putSel_on (e:=(2,38,.agg #[.bool n0,.string n1])) 2 rfl rfl (hon 2 kr_) rfl
   replace ha:=Aside0.mk ha
   have Z:=Aside0.mk Q_Z
   have M8:=Aside0.mk Q_M8
   have M9:=Aside0.mk Q_M9
   refine goes_ Tryz.func40 kr_ rfl #[.agg #[.bool n0,.string n1]] (by rfl) rfl rfl (by first|(simp only [List.map_toArray,List.map_cons,List.map_nil,Act.eval,Array.getD_eq_getD_getElem?,Option.getD_some,e38];done)|(simp only [List.map_toArray,List.map_cons,List.map_nil,Act.eval,Array.getD_eq_getD_getElem?,Option.getD_some,e38];rfl)) ?_
   with_reducible refine (integer_number_sign.calls n0 n1 s _ HS.out).mono ?_
   rintro e_ wb ⟨rfl,hb⟩
   refine ⟨_,rfl,?_⟩
   refine hK.out _ _ ⟨E,(by rw [ha.out];exact putSel_upk 3 hb_ rfl rfl rfl),(Z.out.step hb),Q_M8,Q_M9⟩
  refine steps_cons ?_ ?_
  ·rintro b a w' ⟨E,ha,Q_Z,Q_M8,Q_M9⟩ hb_ hon hoff
   refine ⟨_,rfl,fun K hK=>?_⟩
   have e39:a.tmps[39]? = some (.int .i64 s):=by rw [ha];exact putSel_on (e:=(3,39,.int .i64 s)) 3 rfl rfl (hon 3 kr_) rfl
   replace ha:=Aside0.mk ha
   have Z:=Aside0.mk Q_Z
   have M8:=Aside0.mk Q_M8
   have M9:=Aside0.mk Q_M9
   refine goes_ Tryz.func20 kr_ rfl #[.int .i64 s] (by rfl) rfl rfl (by first|(simp only [List.map_toArray,List.map_cons,List.map_nil,Act.eval,Array.getD_eq_getD_getElem?,Option.getD_some,e39];done)|(simp only [List.map_toArray,List.map_cons,List.map_nil,Act.eval,Array.getD_eq_getD_getElem?,Option.getD_some,e39];rfl)) ?_
   with_reducible refine (integer_From.calls s t _ (HLW.out.below Z.out.bel) HT.out).mono ?_
   rintro e_ wb ⟨rfl,hb⟩
   refine ⟨_,rfl,?_⟩
   refine hK.out _ _ ⟨E,(by rw [ha.out];exact putSel_upk 4 hb_ rfl rfl rfl),(Z.out.step hb),Q_M8,Q_M9⟩
  refine steps_cons ?_ ?_
  ·rintro b a w' ⟨E,ha,Q_Z,Q_M8,Q_M9⟩ hb_ hon hoff
   refine ⟨_,rfl,fun K hK=>?_⟩
   have e37:a.tmps[37]? = some (.string n1):=by rw [ha];exact putSel_on (e:=(1,37,.string n1)) 1 rfl rfl (hon 1 kr_) rfl
   replace ha:=Aside0.mk ha
   have Z:=Aside0.mk Q_Z
   have M8:=Aside0.mk Q_M8
   have M9:=Aside0.mk Q_M9
   refine value_ (w1:=w') (v:=.string n1) (by rfl) rfl ?_ ?_
   ·go_simp
    (try simp only [i64_w])
    try rfl
   refine hK.out _ _ ⟨E,(by rw [ha.out];exact putSel_upk 5 hb_ rfl rfl rfl),Q_Z,Q_M8,Q_M9⟩
  refine steps_cons ?_ ?_
  ·rintro b a w' ⟨E,ha,Q_Z,Q_M8,Q_M9⟩ hb_ hon hoff
   refine ⟨_,rfl,fun K hK=>?_⟩
   have e40:a.tmps[40]? = some (.string t):=by rw [ha];exact putSel_on (e:=(4,40,.string t)) 4 rfl rfl (hon 4 kr_) rfl
   replace ha:=Aside0.mk ha
   have Z:=Aside0.mk Q_Z
   have M8:=Aside0.mk Q_M8
   have M9:=Aside0.mk Q_M9
   refine value_ (w1:=w') (v:=.string t) (by rfl) rfl ?_ ?_
   ·go_simp
    (try simp only [i64_w])
    try rfl
   refine hK.out _ _ ⟨E,(by rw [ha.out];exact putSel_upk 6 hb_ rfl rfl rfl),Q_Z,Q_M8,Q_M9⟩
  refine steps_cons ?_ ?_
  ·rintro b a w' ⟨E,ha,Q_Z,Q_M8,Q_M9⟩ hb_ hon hoff
   refine ⟨_,rfl,fun K hK=>?_⟩
   replace ha:=Aside0.mk ha
   have Z:=Aside0.mk Q_Z
   have M8:=Aside0.mk Q_M8
   have M9:=Aside0.mk Q_M9
   refine value_ (w1:=w') (v:=.string (⟨#[48]⟩:ByteArray)) (by rfl) rfl ?_ ?_
   ·go_simp
    (try simp only [i64_w])
    try rfl
   refine hK.out _ _ ⟨E,(by rw [ha.out];exact putSel_upk 7 hb_ rfl rfl rfl),Q_Z,Q_M8,Q_M9⟩
  refine steps_cons ?_ ?_
  ·rintro b a w' ⟨E,ha,Q_Z,Q_M8,Q_M9⟩ hb_ hon hoff
   refine ⟨_,rfl,fun K hK=>?_⟩
   replace ha:=Aside0.mk ha
   have Z:=Aside0.mk Q_Z
   have M8:=Aside0.mk Q_M8
   have M9:=Aside0.mk Q_M9
   refine value_ (w1:=w') (v:=.int .i64 0) (by rfl) rfl ?_ ?_
   ·go_simp
    (try simp only [i64_w])
    try rfl
   refine hK.out _ _ ⟨E,(by rw [ha.out];exact putSel_upk 8 hb_ rfl rfl rfl),Q_Z,Q_M8,Q_M9⟩
  exact steps_nil
 rintro b a w7 hall ⟨E,ha,Q_Z,Q_M8,Q_M9⟩
 clear M8 M9 Z
 have hb0_:=hall 0 kr_
 have hb1_:=hall 1 kr_
 have hb2_:=hall 2 kr_
 have hb3_:=hall 3 kr_
 have hb4_:=hall 4 kr_
 have hb5_:=hall 5 kr_
 have hb6_:=hall 6 kr_
 have hb7_:=hall 7 kr_
 have hb8_:=hall 8 kr_
 subst ha
 simp only [putSel,hb0_,hb1_,hb2_,hb3_,hb4_,hb5_,hb6_,hb7_,hb8_,if_true,Act.put,List.setIfInBounds_toArray,List.set_cons_zero,List.set_cons_succ]
 have Z:=Aside0.mk Q_Z
 clear Q_Z
 have M8:=Aside0.mk Q_M8
 clear Q_M8
 have M9:=Aside0.mk Q_M9
 clear Q_M9
 clear hall hb0_ hb1_ hb2_ hb3_ hb4_ hb5_ hb6_ hb7_ hb8_
 try go_wp2
 refine bodyPost_ret (results_list (rs:=[.tmp 4,.tmp 5,.tmp 6,.tmp 7]) rfl sm_ (.tmp (.tmp (.tmp (.tmp .nil))))) rfl ?_
 exact ⟨rfl,Z.out.bel⟩
end Go.Proofs.YtaknchlegjcdhaaGreatDoor.Pr
set_option linter.unusedVariables false
set_option linter.unusedSimpArgs false
namespace Go.Proofs.YtaknchlegjcdhaaGreatDoor.Pr
open Go.RowKit Go.Lib Go.Proofs.YtaknchlegjcdhaaGreatDoorW.PrintWords Go.Proofs.YtaknchlegjcdhaaGreatDoorW.PrintLast Go.Proofs.YtaknchlegjcdhaaGreatDoorW.PrintMore
def integer_Bezout.f (k:Nat) (a b:ByteArray):Option (ByteArray × ByteArray × ByteArray × Int) :=
 (integer_both.f k a b).bind fun t =>
  if t.2.2.2.2≠0 then some ((⟨#[]⟩:ByteArray),(⟨#[]⟩:ByteArray),(⟨#[]⟩:ByteArray),t.2.2.2.2)
  else if (t.2.2.1 == false && (t.2.2.2.1.toList == ([48]:List UInt8))) = true then (integer_number_sign.f t.1 t.2.1).bind fun s=>(integer_From.f s).bind fun u=>some (t.2.1,u,(⟨#[48]⟩:ByteArray),0)
  else (bezL k false t.2.1 false t.2.2.2.1 false (⟨#[49]⟩:ByteArray) false (⟨#[48]⟩:ByteArray)).bind fun R=>(if t.1 = true then integer_number_opposite.f R.2.2.1 R.2.2.2 else some (R.2.2.1,R.2.2.2)).bind fun Y =>
   (bezT k t.1 t.2.1 t.2.2.1 t.2.2.2.1 R.1 R.2.1 Y.1 Y.2).bind fun Z=>some (Z.1,Z.2.1,Z.2.2,0)
theorem bezL_mono:∀ k r0 r1 s0 s1 x0 x1 y0 y1,LeO (bezL k r0 r1 s0 s1 x0 x1 y0 y1) (bezL (k + 1) r0 r1 s0 s1 x0 x1 y0 y1)
 | 0=>fun _ _ _ _ _ _ _ _ r h=>by simp [bezL] at h
 | k + 1=>fun r0 r1 s0 s1 x0 x1 y0 y1=>by
  have ih:=bezL_mono k
  unfold bezL
  refine LeO.ite (LeO.refl _) (LeO.bind (integer_number_divide.mono _ _ _ _ _) fun _=>LeO.bind (LeO.refl _) fun _=>LeO.bind (LeO.refl _) fun _=>LeO.bind (LeO.refl _) fun _=>ih _ _ _ _ _ _ _ _)
theorem bezT_mono (k:Nat) (n0:Bool) (n1:ByteArray) (m0:Bool) (m1:ByteArray) (r0:Bool) (r1:ByteArray) (x0:Bool) (x1:ByteArray):LeO (bezT k n0 n1 m0 m1 r0 r1 x0 x1) (bezT (k + 1) n0 n1 m0 m1 r0 r1 x0 x1):=by
 unfold bezT
 repeat' first
  | (with_reducible exact integer_number_divide.mono _ _ _ _ _)
  | (with_reducible exact LeO.refl _)
  | (with_reducible refine LeO.bind ?_ (fun _=>?_))
theorem integer_Bezout.mono:∀ a b k,LeO (integer_Bezout.f k a b) (integer_Bezout.f (k + 1) a b):=by
 intro a b k
 unfold integer_Bezout.f
 refine LeO.bind (integer_both.mono _ _ _) fun _=>LeO.ite (LeO.refl _) (LeO.ite (LeO.refl _) (LeO.bind (bezL_mono _ _ _ _ _ _ _ _ _) fun _=>LeO.bind (LeO.refl _) fun _=>LeO.bind (bezT_mono _ _ _ _ _ _ _ _ _) fun _=>LeO.refl _))
theorem integer_Bezout.calls (k:Nat) (a0:ByteArray) (a1:ByteArray) (r1:ByteArray) (r2:ByteArray) (r3:ByteArray) (r4:Int) (w:World) (hL:LaidW w) (h:integer_Bezout.f k a0 a1 = some (r1,r2,r3,r4)) :
  Calls Tryz.prog 32 #[.string a0,.string a1] w fun e w'=>e = .returned (.tuple #[.string r1,.string r2,.string r3,.int .i64 r4])∧Below w.heap.size w w':=by
 unfold integer_Bezout.f at h
 obtain ⟨⟨n0,n1,m0,m1,ev⟩,hb,h⟩:=Option.bind_eq_some_iff.mp h
 dsimp only at h
 by_cases he:ev≠0
 ·rw [if_pos he] at h
  obtain ⟨rfl,rfl,rfl,rfl⟩:=(by simpa using h:_∧_∧_∧_)
  exact bez_bad k a0 a1 n1 m1 n0 m0 ev he w hL hb
 ·rw [if_neg he] at h
  have he':ev = 0:=Classical.not_not.1 he
  by_cases hz:(m0 == false && (m1.toList == ([48]:List UInt8))) = true
  ·rw [if_pos hz] at h
   obtain ⟨s,hs,h⟩:=Option.bind_eq_some_iff.mp h
   obtain ⟨u,hu,h⟩:=Option.bind_eq_some_iff.mp h
   simp only [Option.some.injEq,Prod.mk.injEq] at h
   obtain ⟨h1,h2,h3,h4⟩:=h
   subst h1;subst h2;subst h3;subst h4
   exact bez_zero k a0 a1 n1 m1 n0 m0 ev s u he' hz hs hu w hL hb
  ·rw [if_neg hz] at h
   subst he'
   obtain ⟨⟨R0,R1,X0,X1⟩,hR,h⟩:=Option.bind_eq_some_iff.mp h
   obtain ⟨⟨Y0,Y1⟩,hY,h⟩:=Option.bind_eq_some_iff.mp h
   obtain ⟨⟨ra,rb,rc⟩,hT,h⟩:=Option.bind_eq_some_iff.mp h
   simp only [Option.some.injEq,Prod.mk.injEq] at h
   obtain ⟨h1,h2,h3,h4⟩:=h
   subst h1;subst h2;subst h3;subst h4
   exact bez_main k a0 a1 n1 m1 n0 m0 _ _ _ w hL hb (by simpa using hz) ⟨R0,R1,X0,X1,Y0,Y1,hR,hY,hT⟩
end Go.Proofs.YtaknchlegjcdhaaGreatDoor.Pr
namespace Go.Proofs.YtaknchlegjcdhaaGreatDoor.Pr
open Go.RowKit Go.Proofs.YtaknchlegjcdhaaGreatDoorW.PrintWords Go.Proofs.YtaknchlegjcdhaaGreatDoorW.PrintLast Go.Proofs.YtaknchlegjcdhaaGreatDoorW.PrintMore
attribute [local go_sem] max2_int min2_int max_two min_two max_three min_three max_four min_four
set_option maxHeartbeats 8000000
set_option maxRecDepth 100000
set_option linter.unusedVariables false
set_option linter.unusedSimpArgs false
def garboardlaw02_awake.f (k:Nat) :Option (Bool):=(integer_DivMod.f k (⟨#[45,55]⟩:ByteArray) (⟨#[50]⟩:ByteArray)).bind fun bt385=>((integer_DivMod.f k (⟨#[45,55]⟩:ByteArray) (⟨#[45,50]⟩:ByteArray)).bind fun bt388=>((integer_Bezout.f k (⟨#[49,50]⟩:ByteArray) (⟨#[45,49,56]⟩:ByteArray)).bind fun bt391=>((integer_Add.f k (⟨#[45,53]⟩:ByteArray) (⟨#[51]⟩:ByteArray)).bind fun bt395=>((integer_Sub.f k (⟨#[45,53]⟩:ByteArray) (⟨#[51]⟩:ByteArray)).bind fun bt397=>((integer_Mul.f k (⟨#[45,53]⟩:ByteArray) (⟨#[51]⟩:ByteArray)).bind fun bt399=>((integer_Sign.f k (⟨#[45,53]⟩:ByteArray)).bind fun bt401=>((integer_Abs.f k (⟨#[45,53]⟩:ByteArray)).bind fun bt403=>((integer_Neg.f k (⟨#[45,53]⟩:ByteArray)).bind fun bt405=>((integer_Compare.f k (⟨#[45,53]⟩:ByteArray) (⟨#[51]⟩:ByteArray)).bind fun bt407=>(if (wrap64 ((wrap64 ((wrap64 ((wrap64 ((wrap64 ((wrap64 ((wrap64 ((wrap64 ((wrap64 (bt385.2.2 + bt388.2.2)) + bt391.2.2.2)) + bt395.2)) + bt397.2)) + bt399.2)) + bt401.2)) + bt403.2)) + bt405.2)) + bt407.2)) = 0 then (if bt385.1.toList = ([45,52]:List UInt8) then (if bt385.2.1.toList = ([49]:List UInt8) then (if bt388.1.toList = ([52]:List UInt8) then (if bt388.2.1.toList = ([49]:List UInt8) then (if bt391.1.toList = ([54]:List UInt8) then (if bt391.2.1.toList = ([50]:List UInt8) then (if bt391.2.2.1.toList = ([49]:List UInt8) then (if bt395.1.toList = ([45,50]:List UInt8) then (if bt397.1.toList = ([45,56]:List UInt8) then (if bt399.1.toList = ([45,49,53]:List UInt8) then (if bt401.1 = (-1) then (if bt403.1.toList = ([53]:List UInt8) then (if bt405.1.toList = ([53]:List UInt8) then (if bt407.1 = (-1) then ((integer_From.f (-7)).bind fun t409=>(if t409.toList = ([45,55]:List UInt8) then ((integer_Valid.f k (⟨#[45,49]⟩:ByteArray)).bind fun t410=>(if t410 = true then ((integer_Valid.f k (⟨#[45,48]⟩:ByteArray)).bind fun t411=>(if t411 = true then (some false) else ((integer_Valid.f k (⟨#[45]⟩:ByteArray)).bind fun t412=>(some (!t412))))) else (some false))) else (some false))) else (some false)) else (some false)) else (some false)) else (some false)) else (some false)) else (some false)) else (some false)) else (some false)) else (some false)) else (some false)) else (some false)) else (some false)) else (some false)) else (some false)) else (some false)))))))))))
theorem garboardlaw02_awake.mono:∀ k,LeO (garboardlaw02_awake.f k ) (garboardlaw02_awake.f (k + 1) ):=by intro  k;unfold garboardlaw02_awake.f;have:=@integer_Abs.mono;have:=@integer_Add.mono;have:=@integer_Bezout.mono;have:=@integer_Compare.mono;have:=@integer_DivMod.mono;have:=@integer_Mul.mono;have:=@integer_Neg.mono;have:=@integer_Sign.mono;have:=@integer_Sub.mono;have:=@integer_Valid.mono;exact mn_
end Go.Proofs.YtaknchlegjcdhaaGreatDoor.Pr
set_option linter.unusedVariables false
set_option linter.unusedSimpArgs false
namespace Go.Proofs.YtaknchlegjcdhaaGreatDoor.Pr
open Go.RowKit Go.Lib Go.Proofs.YtaknchlegjcdhaaGreatDoorW.PrintWords Go.Proofs.YtaknchlegjcdhaaGreatDoorW.PrintLast Go.Proofs.YtaknchlegjcdhaaGreatDoorW.PrintMore Go.Proofs.YtaknchlegjcdhaaGreatDoor.NatTh
def ngB (a:ByteArray):Bool:=(bs a).head? == some 45
def abB (a:ByteArray):ByteArray:=if ngB a = true then a.extract 1 a.size else a
def iv (a:ByteArray):Bool:=nv (abB a) && (!ngB a || !((abB a).toList == ([48]:List UInt8)))
def zof (a:ByteArray):Int:=zn (ngB a) (nat (abB a))
def it (z:Int):ByteArray:=if z < 0 then (⟨#[45]⟩:ByteArray) ++ num z.natAbs else num z.natAbs
theorem one45:(⟨#[45]⟩:ByteArray).toList = ([45]:List UInt8):=toL _
theorem cut_eq (a:ByteArray):strings_CutPrefix.f a (⟨#[45]⟩:ByteArray) = some (abB a,ngB a):=by
 have hsz:=bs_length a
 have s1:((⟨#[45]⟩:ByteArray).size:Int) = 1:=rfl
 have key:stringslite_HasPrefix.f a (⟨#[45]⟩:ByteArray) = some (ngB a):=by
  unfold stringslite_HasPrefix.f
  rw [s1]
  by_cases h:(a.size:Int) ≥ 1
  ·rw [if_pos h,if_pos (by omega),if_pos (by omega),one45,toL,show ((1:Int)).toNat = 1 from rfl,bs_to]
   congr 1
   unfold ngB
   cases hb:bs a with
   | nil=>rw [hb] at hsz;simp at hsz;omega
   | cons c l =>
    simp only [List.take_succ_cons,List.take_zero,List.head?_cons]
    by_cases hc:c = 45
    ·subst hc;rfl
    ·have e1:(([c]:List UInt8) == [45]) = false:=beq_eq_false_iff_ne.2 (fun e=>hc (by simpa using e))
     have e2:((some c:Option UInt8) == some 45) = false:=beq_eq_false_iff_ne.2 (fun e=>hc (Option.some.inj e))
     rw [e1,e2]
  ·rw [if_neg h]
   have h0:bs a = []:=List.length_eq_zero_iff.1 (by omega)
   unfold ngB
   rw [h0]
   rfl
 unfold strings_CutPrefix.f stringslite_CutPrefix.f
 rw [key,Option.bind_some,s1]
 by_cases h:ngB a = true
 ·have hs:1≤(a.size:Int):=by
   unfold ngB at h
   cases hb:bs a with
   | nil=>rw [hb] at h;cases h
   | cons c l=>rw [hb] at hsz;simp at hsz;omega
  rw [if_pos h,if_pos (by omega),if_pos hs,Option.bind_some]
  unfold abB
  rw [if_pos h,h]
  rfl
 ·rw [if_neg h,Option.bind_some]
  unfold abB
  rw [if_neg h,(by simpa using h:ngB a = false)]
theorem ab_size (a:ByteArray):(abB a).size≤a.size:=by
 unfold abB
 split
 ·rw [ByteArray.size_extract];omega
 ·exact Nat.le_refl _
theorem read_ev (a:ByteArray) (hs:a.size < 1152921504606846976):Ev (fun k=>integer_read.f k a) (ngB a,abB a,iv a):=by
 have v:=Valid_ev (abB a) (Nat.lt_of_le_of_lt (ab_size a) hs)
 refine Ev.congr (f:=fun k=>(natural_Valid.f k (abB a)).bind fun t108=>(if t108 = true then (some (ngB a,abB a,(!ngB a || (!((abB a).toList == ([48]:List UInt8)))))) else (some (ngB a,abB a,false)))) (fun k=>by unfold integer_read.f;rw [cut_eq];rfl) (Ev.bind v (Ev.congr (fun k=>?_) (Ev.now _)))
 unfold iv
 cases nv (abB a) with
 | true=>rw [if_pos rfl,Bool.true_and]
 | false=>rw [if_neg (by simp),Bool.false_and]
theorem iv_nv {a:ByteArray} (h:iv a = true):nv (abB a) = true:=by
 unfold iv at h
 exact (Bool.and_eq_true_iff.1 h).1
theorem zp_zof {a:ByteArray} (h:iv a = true):zp (zof a) = (ngB a,abB a):=by
 have h1:=iv_nv h
 have h2:=num_nat h1
 have h3:(!ngB a || !((abB a).toList == ([48]:List UInt8))) = true:=by
  unfold iv at h
  exact (Bool.and_eq_true_iff.1 h).2
 unfold zp zof zn
 cases hn:ngB a with
 | false =>
  rw [if_neg (by simp),Int.natAbs_natCast,h2,decide_eq_false (by omega)]
 | true =>
  rw [hn,← h2,beq0] at h3
  have h4:nat (abB a)≠0:=by simpa using h3
  rw [if_pos rfl,Int.natAbs_neg,Int.natAbs_natCast,h2,decide_eq_true (by omega)]
theorem zn_zp (z:Int):zn (zp z).1 (nat (zp z).2) = z:=by
 unfold zp zn
 rw [nat_num]
 by_cases h:z < 0
 ·rw [if_pos (decide_eq_true h)];omega
 ·rw [if_neg (by simpa using h)];omega
theorem text_zp (z:Int) (h:(num z.natAbs).size < 9000000000000000000):integer_number_text.f (zp z).1 (zp z).2 = some (it z):=by
 unfold integer_number_text.f it zp
 by_cases hz:z < 0
 ·rw [if_pos (decide_eq_true hz),if_pos (by dsimp only;omega),if_pos hz]
 ·rw [if_neg (by simpa using hz),if_neg hz]
theorem head_num (n:Nat):(bs (num n)).head?≠some 45:=by
 rw [bs_num]
 intro h
 have h1:=(nml_dec n).1
 cases hb:decDigits n with
 | nil=>rw [hb] at h;cases h
 | cons c l =>
  rw [hb] at h h1
  have h2:=h1 c (by simp)
  have h3:c = 45:=by simpa using h
  subst h3
  revert h2
  unfold isDig
  decide
theorem ng_it (z:Int):ngB (it z) = decide (z < 0):=by
 unfold ngB it
 by_cases hz:z < 0
 ·rw [if_pos hz,decide_eq_true hz]
  have h2:bs ((⟨#[45]⟩:ByteArray) ++ num z.natAbs) = [45] ++ bs (num z.natAbs):=by
   unfold bs
   rw [ByteArray.data_append,Array.toList_append]
  rw [h2]
  rfl
 ·rw [if_neg hz,decide_eq_false hz]
  exact beq_eq_false_iff_ne.2 (head_num _)
theorem ab_it (z:Int):abB (it z) = num z.natAbs:=by
 have hn:=ng_it z
 unfold abB
 rw [hn]
 by_cases hz:z < 0
 ·rw [if_pos (decide_eq_true hz)]
  apply bs_inj
  rw [bs_from]
  unfold it
  rw [if_pos hz]
  have h2:bs ((⟨#[45]⟩:ByteArray) ++ num z.natAbs) = [45] ++ bs (num z.natAbs):=by
   unfold bs
   rw [ByteArray.data_append,Array.toList_append]
  rw [h2]
  rfl
 ·rw [if_neg (by simpa using hz)]
  unfold it
  rw [if_neg hz]
theorem iv_it (z:Int):iv (it z) = true:=by
 unfold iv
 rw [ab_it,ng_it,nv_num,beq0,Bool.true_and]
 by_cases hz:z < 0
 ·rw [decide_eq_true hz,decide_eq_false (by omega)];rfl
 ·rw [decide_eq_false hz];rfl
theorem zof_it (z:Int):zof (it z) = z:=by
 unfold zof
 rw [ab_it,ng_it,nat_num]
 exact (by have:=zn_zp z;unfold zp at this;rw [nat_num] at this;exact this)
theorem it_nat (n:Nat):it (n:Int) = num n:=by
 unfold it
 rw [if_neg (by omega),Int.natAbs_natCast]
theorem zpn (n:Nat):zp (n:Int) = (false,num n):=by
 unfold zp
 rw [decide_eq_false (by omega),Int.natAbs_natCast]
def Zs (e:Nat) (z:Int):Prop:=Sz e z.natAbs
theorem Zs.mono {e f:Nat} {z:Int} (h:Zs e z) (hf:e≤f):Zs f z:=Sz.mono h hf
theorem Zs.le {e:Nat} {y z:Int} (h:Zs e z) (hm:y.natAbs≤z.natAbs):Zs e y:=Sz.le h hm
theorem Zs.neg {e:Nat} {z:Int} (h:Zs e z):Zs e (-z):=h.le (by omega)
theorem Zs.add {e:Nat} {y z:Int} (hy:Zs e y) (hz:Zs e z):Zs (e + 1) (y + z):=(Sz.add hy hz).le (by omega)
theorem Zs.mul {e f:Nat} {y z:Int} (hy:Zs e y) (hz:Zs f z):Zs (e + f) (y * z):=(Sz.mul hy hz).le (by rw [Int.natAbs_mul];exact Nat.le_refl _)
theorem Zs.sh {e:Nat} {z:Int} (h:Zs e z) (he:1≤e) (h2:e≤100000):Sh (num z.natAbs):=Sz.sh h he h2
theorem Zs.txt {e:Nat} {z:Int} (h:Zs e z) (he:1≤e) (h2:e≤100000):integer_number_text.f (zp z).1 (zp z).2 = some (it z):=text_zp z (by have:=sz_size he h;omega)
theorem opp_eq (z:Int):integer_number_opposite.f (zp z).1 (zp z).2 = some (zp (-z)):=by
 unfold integer_number_opposite.f
 have:integer_with.f (!(zp z).1) (zp z).2 = some (zp (-z)):=by
  unfold zp
  dsimp only
  rw [with_eq]
  have:zn (!decide (z < 0)) z.natAbs = -z:=by
   unfold zn
   by_cases hz:z < 0
   ·rw [decide_eq_true hz,if_neg (by simp)];omega
   ·rw [decide_eq_false hz,if_pos (by rfl)];omega
  rw [this]
  rfl
 rw [this]
 rfl
theorem sign_eq (z:Int):integer_number_sign.f (zp z).1 (zp z).2 = some z.sign:=by
 unfold integer_number_sign.f integer_zero.f zp
 rw [Option.bind_some]
 dsimp only
 rw [show (⟨#[48]⟩:ByteArray).toList = ([48]:List UInt8) from toL _,beq0]
 rcases Int.lt_trichotomy z 0 with h|h|h
 ·rw [if_neg (by simp [h]),if_pos (decide_eq_true h),Int.sign_eq_neg_one_of_neg h]
 ·subst h;rfl
 ·rw [if_neg (by simp;omega),if_neg (by simp;omega),Int.sign_eq_one_of_pos h]
theorem plus_eq2 {e:Nat} {y z:Int} (hy:Zs e y) (hz:Zs e z) (he:1≤e) (h2:e≤100000):integer_number_plus.f (zp y).1 (zp y).2 (zp z).1 (zp z).2 = some (zp (y + z)):=by
 unfold integer_number_plus.f
 have e1:nv (zp y).2 = true:=nv_num _
 have e2:nv (zp z).2 = true:=nv_num _
 rw [if_pos ⟨by rw [e1,e2];rfl,hy.sh he h2,hz.sh he h2⟩,zn_zp,zn_zp]
theorem times_eq {e:Nat} {y z:Int} (hy:Zs e y) (hz:Zs e z) (he:1≤e) (h2:e≤100000):integer_number_times.f (zp y).1 (zp y).2 (zp z).1 (zp z).2 = some (zp (y * z)):=by
 unfold integer_number_times.f
 have e0:natural_Mul.f (zp y).2 (zp z).2 = some (num (y.natAbs * z.natAbs),0):=mul_f (hy.sh he h2) (hz.sh he h2)
 rw [e0,Option.bind_some]
 dsimp only
 rw [with_eq,Option.bind_some]
 have:zn ((zp y).1 != (zp z).1) (y.natAbs * z.natAbs) = y * z:=by
  unfold zp zn
  dsimp only
  rw [Int.natCast_mul]
  by_cases h1:y < 0
  ·have a1:(y.natAbs:Int) = -y:=by omega
   by_cases h3:z < 0
   ·have a2:(z.natAbs:Int) = -z:=by omega
    rw [decide_eq_true h1,decide_eq_true h3,if_neg (by simp),a1,a2,Int.neg_mul_neg]
   ·have a2:(z.natAbs:Int) = z:=by omega
    rw [decide_eq_true h1,decide_eq_false h3,if_pos (by rfl),a1,a2,Int.neg_mul,Int.neg_neg]
  ·have a1:(y.natAbs:Int) = y:=by omega
   by_cases h3:z < 0
   ·have a2:(z.natAbs:Int) = -z:=by omega
    rw [decide_eq_false h1,decide_eq_true h3,if_pos (by rfl),a1,a2,Int.mul_neg,Int.neg_neg]
   ·have a2:(z.natAbs:Int) = z:=by omega
    rw [decide_eq_false h1,decide_eq_false h3,if_neg (by simp),a1,a2]
 rw [this]
theorem div_zn {y z:Int} (hz:z≠0):(if y < 0∧y.natAbs % z.natAbs≠0 then (zn (decide (y < 0) != decide (z < 0)) (y.natAbs / z.natAbs + 1),((z.natAbs - y.natAbs % z.natAbs:Nat):Int)) else (zn (decide (y < 0) != decide (z < 0)) (y.natAbs / z.natAbs),((y.natAbs % z.natAbs:Nat):Int))) = (y / z,y % z):=by
 have hb:0 < z.natAbs:=by omega
 have key:=Nat.div_add_mod y.natAbs z.natAbs
 have hlt:=Nat.mod_lt y.natAbs hb
 generalize hq:y.natAbs / z.natAbs = q at *
 generalize hr:y.natAbs % z.natAbs = r at *
 have key':(z.natAbs:Int) * (q:Int) + (r:Int) = (y.natAbs:Int):=by rw [← key];simp
 have uniq:∀ Q R:Int,y = z * Q + R→0≤R→R < (z.natAbs:Int)→(Q,R) = (y / z,y % z):=fun Q R h1 h2 h3=>by
  have hmod:y % z = R:=by
   rw [h1,Int.add_comm,Int.add_mul_emod_self_left]
   rcases Int.lt_or_gt_of_ne hz with h|h
   ·rw [← Int.emod_neg]
    exact Int.emod_eq_of_lt h2 (by omega)
   ·exact Int.emod_eq_of_lt h2 (by omega)
  have hdiv:y / z = Q:=by
   rw [h1,Int.add_comm,Int.add_mul_ediv_left _ _ hz]
   have:R / z = 0:=by
    rcases Int.lt_or_gt_of_ne hz with h|h
    ·have h4:R / -z = 0:=Int.ediv_eq_zero_of_lt h2 (by omega)
     rw [Int.ediv_neg] at h4
     omega
    ·exact Int.ediv_eq_zero_of_lt h2 (by omega)
   rw [this];omega
  rw [hmod,hdiv]
 have hsz:(z.natAbs:Int) = z ∨ (z.natAbs:Int) = -z:=by omega
 split
 ·rename_i h
  obtain ⟨h1,h2⟩:=h
  refine uniq _ _ ?_ (by omega) (by omega)
  have a1:(y.natAbs:Int) = -y:=by omega
  rw [a1] at key'
  unfold zn
  have hsub:((z.natAbs - r:Nat):Int) = (z.natAbs:Int) - r:=by omega
  rw [hsub]
  by_cases h3:z < 0
  ·have a2:(z.natAbs:Int) = -z:=by omega
   rw [a2] at key' ⊢
   rw [decide_eq_true h1,decide_eq_true h3,if_neg (by simp)]
   rw [Int.natCast_add,Int.mul_add,Int.natCast_one,Int.mul_one]
   rw [Int.neg_mul] at key'
   omega
  ·have a2:(z.natAbs:Int) = z:=by omega
   rw [a2] at key' ⊢
   rw [decide_eq_true h1,decide_eq_false h3,if_pos (by rfl)]
   rw [Int.natCast_add,Int.mul_neg,Int.mul_add,Int.natCast_one,Int.mul_one]
   omega
 ·rename_i h
  refine uniq _ _ ?_ (by omega) (by omega)
  unfold zn
  by_cases h1:y < 0
  ·have h2:r = 0:=by
    by_cases h2:r = 0
    ·exact h2
    ·exact absurd ⟨h1,h2⟩ h
   have a1:(y.natAbs:Int) = -y:=by omega
   rw [a1] at key'
   by_cases h3:z < 0
   ·have a2:(z.natAbs:Int) = -z:=by omega
    rw [a2] at key'
    rw [decide_eq_true h1,decide_eq_true h3,if_neg (by simp)]
    rw [Int.neg_mul] at key'
    omega
   ·have a2:(z.natAbs:Int) = z:=by omega
    rw [a2] at key'
    rw [decide_eq_true h1,decide_eq_false h3,if_pos (by rfl),Int.mul_neg]
    omega
  ·have a1:(y.natAbs:Int) = y:=by omega
   rw [a1] at key'
   by_cases h3:z < 0
   ·have a2:(z.natAbs:Int) = -z:=by omega
    rw [a2] at key'
    rw [decide_eq_false h1,decide_eq_true h3,if_pos (by rfl),Int.mul_neg]
    rw [Int.neg_mul] at key'
    omega
   ·have a2:(z.natAbs:Int) = z:=by omega
    rw [a2] at key'
    rw [decide_eq_false h1,decide_eq_false h3,if_neg (by simp)]
    omega
end Go.Proofs.YtaknchlegjcdhaaGreatDoor.Pr
set_option linter.unusedVariables false
set_option linter.unusedSimpArgs false
namespace Go.Proofs.YtaknchlegjcdhaaGreatDoor.Pr
open Go.RowKit Go.Lib Go.Proofs.YtaknchlegjcdhaaGreatDoorW.PrintWords Go.Proofs.YtaknchlegjcdhaaGreatDoorW.PrintLast Go.Proofs.YtaknchlegjcdhaaGreatDoorW.PrintMore Go.Proofs.YtaknchlegjcdhaaGreatDoor.NatTh
theorem zp_fst (z:Int):(zp z).1 = decide (z < 0):=rfl
theorem zp_snd (z:Int):(zp z).2 = num z.natAbs:=rfl
theorem divide_ev {e:Nat} {y z:Int} (hy:Zs e y) (hz:Zs e z) (he:1≤e) (h2:e≤90000) (h0:z≠0) :
  Ev (fun k=>integer_number_divide.f k (zp y).1 (zp y).2 (zp z).1 (zp z).2) ((zp (y / z)).1,(zp (y / z)).2,(zp (y % z)).1,(zp (y % z)).2):=by
 have d:=div_e (hy.sh he (by omega)) (hz.sh he (by omega))
 rw [if_neg (by omega:z.natAbs≠0)] at d
 have key:=div_zn (y:=y) h0
 have hq:Zs e ((y.natAbs / z.natAbs:Nat):Int):=hy.le (by rw [Int.natAbs_natCast];exact Nat.div_le_self _ _)
 have hr:Zs e ((y.natAbs % z.natAbs:Nat):Int):=hy.le (by rw [Int.natAbs_natCast];exact Nat.mod_le _ _)
 have sq:=hq.sh he (by omega)
 have sr:=hr.sh he (by omega)
 rw [Int.natAbs_natCast] at sq sr
 have s1:Sh (num 1):=Sz.sh (e:=1) (by unfold Sz;omega) (by omega) (by omega)
 have hlt:=Nat.mod_lt y.natAbs (by omega:0 < z.natAbs)
 have fin:∀ b:Bool,Ev (fun k=>integer_number_divide.j0 k (num (y.natAbs / z.natAbs)) (num (y.natAbs % z.natAbs)) b (zp y).1 (zp y).2 (zp z).1 (zp z).2)
   (if b = true then ((zp (zn (decide (y < 0) != decide (z < 0)) (y.natAbs / z.natAbs + 1))).1,(zp (zn (decide (y < 0) != decide (z < 0)) (y.natAbs / z.natAbs + 1))).2,(zp ((z.natAbs - y.natAbs % z.natAbs:Nat):Int)).1,(zp ((z.natAbs - y.natAbs % z.natAbs:Nat):Int)).2)
    else ((zp (zn (decide (y < 0) != decide (z < 0)) (y.natAbs / z.natAbs))).1,(zp (zn (decide (y < 0) != decide (z < 0)) (y.natAbs / z.natAbs))).2,(zp ((y.natAbs % z.natAbs:Nat):Int)).1,(zp ((y.natAbs % z.natAbs:Nat):Int)).2)):=fun b=>by
  refine Ev.step (f:=fun _=>some _) (fun k=>?_) (Ev.now _)
  rw [integer_number_divide.j0]
  cases b with
  | true =>
   rw [if_pos rfl,if_pos rfl,str1,add_f sq s1,Option.bind_some,zp_snd z,sub_f (hz.sh he (by omega)) sr,if_neg (by omega),Option.bind_some]
   dsimp only
   rw [zp_fst,zp_fst,with_eq,Option.bind_some,with_eq,Option.bind_some]
   rfl
  | false =>
   rw [if_neg (by simp),if_neg (by simp),zp_fst,zp_fst,with_eq,Option.bind_some,with_eq,Option.bind_some]
   rfl
 refine Ev.congr (fun k=>rfl) (Ev.bind d ?_)
 dsimp only
 by_cases hy0:y < 0
 ·have e1:∀ k,(if (zp y).1 = true then (integer_number_divide.j0 k (num (y.natAbs / z.natAbs)) (num (y.natAbs % z.natAbs)) ((num (y.natAbs % z.natAbs)).toList != ([48]:List UInt8)) (zp y).1 (zp y).2 (zp z).1 (zp z).2) else (integer_number_divide.j0 k (num (y.natAbs / z.natAbs)) (num (y.natAbs % z.natAbs)) false (zp y).1 (zp y).2 (zp z).1 (zp z).2)) = _:=fun k=>if_pos (decide_eq_true hy0)
  refine Ev.congr e1 ?_
  have e2:((num (y.natAbs % z.natAbs)).toList != ([48]:List UInt8)) = decide (y.natAbs % z.natAbs≠0):=by
   rw [bne,beq0]
   by_cases h:y.natAbs % z.natAbs = 0
   ·rw [decide_eq_true h,decide_eq_false (by omega)];rfl
   ·rw [decide_eq_false h,decide_eq_true h];rfl
  rw [e2]
  have f:=fin (decide (y.natAbs % z.natAbs≠0))
  by_cases h:y.natAbs % z.natAbs = 0
  ·rw [if_neg (by rintro ⟨_,h3⟩;exact h3 h)] at key
   obtain ⟨k1,k2⟩:=Prod.mk.inj key
   rw [if_neg (by simp [h]),k1,k2] at f
   exact f
  ·rw [if_pos ⟨hy0,h⟩] at key
   obtain ⟨k1,k2⟩:=Prod.mk.inj key
   rw [if_pos (decide_eq_true h),k1,k2] at f
   exact f
 ·have e1:∀ k,(if (zp y).1 = true then (integer_number_divide.j0 k (num (y.natAbs / z.natAbs)) (num (y.natAbs % z.natAbs)) ((num (y.natAbs % z.natAbs)).toList != ([48]:List UInt8)) (zp y).1 (zp y).2 (zp z).1 (zp z).2) else (integer_number_divide.j0 k (num (y.natAbs / z.natAbs)) (num (y.natAbs % z.natAbs)) false (zp y).1 (zp y).2 (zp z).1 (zp z).2)) = _:=fun k=>if_neg (by rw [zp_fst];simpa using hy0)
  refine Ev.congr e1 ?_
  have f:=fin false
  rw [if_neg (by rintro ⟨h3,_⟩;exact hy0 h3)] at key
  obtain ⟨k1,k2⟩:=Prod.mk.inj key
  rw [if_neg (by simp),k1,k2] at f
  exact f
def S1 (a:ByteArray):Prop:=a.size≤1000
def okB (a b:ByteArray):Bool:=iv a && iv b
def bothZ (a b:ByteArray):Bool × ByteArray × Bool × ByteArray × Int:=if okB a b = true then ((zp (zof a)).1,(zp (zof a)).2,(zp (zof b)).1,(zp (zof b)).2,0) else (false,(⟨#[48]⟩:ByteArray),false,(⟨#[48]⟩:ByteArray),1)
theorem iboth_ev (a b:ByteArray) (ha:S1 a) (hb:S1 b):Ev (fun k=>integer_both.f k a b) (bothZ a b):=by
 unfold S1 at ha hb
 have ra:=read_ev a (by omega)
 have rb:=read_ev b (by omega)
 unfold bothZ okB
 refine Ev.congr (fun k=>rfl) (Ev.bind ra (Ev.bind rb ?_))
 dsimp only
 cases h1:iv a with
 | false =>
  rw [Bool.false_and,if_neg (by simp)]
  refine Ev.congr (fun k=>if_neg (by simp)) (Ev.step (f:=fun _=>some _) (fun k=>?_) (Ev.now _))
  rw [integer_both.j0,if_pos rfl]
  rfl
 | true =>
  refine Ev.congr (fun k=>if_pos rfl) ?_
  rw [Bool.true_and]
  cases h2:iv b with
  | false =>
   rw [if_neg (by simp)]
   refine Ev.step (f:=fun _=>some _) (fun k=>?_) (Ev.now _)
   rw [integer_both.j0,if_pos (by rfl)]
   rfl
  | true =>
   rw [if_pos rfl,zp_zof h1,zp_zof h2]
   refine Ev.step (f:=fun _=>some _) (fun k=>?_) (Ev.now _)
   rw [integer_both.j0,if_neg (by simp)]
theorem zs_of {a:ByteArray} {d:Nat} (h:iv a = true) (hs:a.size≤d):Zs d (zof a):=by
 have h1:nv (abB a) = true:=iv_nv h
 have e:=(Prod.mk.inj (zp_zof h)).2
 have h2:=pv_lt (bs (abB a)) ((nv_iff _).1 h1).1
 rw [bs_length] at h2
 have h3:(zof a).natAbs = nat (abB a):=num_inj (by rw [e,num_nat h1])
 unfold Zs Sz
 rw [h3]
 exact Nat.lt_of_lt_of_le h2 (Nat.pow_le_pow_right (by omega) (Nat.le_trans (ab_size a) hs))
theorem zs_zof {a:ByteArray} (h:iv a = true) (hs:S1 a):Zs 1000 (zof a):=zs_of h hs
def addZ (a b:ByteArray):ByteArray × Int:=if okB a b = true then (it (zof a + zof b),0) else (⟨#[]⟩,1)
def subZ (a b:ByteArray):ByteArray × Int:=if okB a b = true then (it (zof a - zof b),0) else (⟨#[]⟩,1)
def mulZ (a b:ByteArray):ByteArray × Int:=if okB a b = true then (it (zof a * zof b),0) else (⟨#[]⟩,1)
def cmpZ (a b:ByteArray):Int × Int:=if okB a b = true then ((zof a - zof b).sign,0) else (0,1)
def divZ (a b:ByteArray):ByteArray × ByteArray × Int:=if okB a b = true then (if zof b = 0 then (⟨#[]⟩,⟨#[]⟩,16) else (it (zof a / zof b),it (zof a % zof b),0)) else (⟨#[]⟩,⟨#[]⟩,1)
def signZ (a:ByteArray):Int × Int:=if iv a = true then ((zof a).sign,0) else (0,1)
def absZ (a:ByteArray):ByteArray × Int:=if iv a = true then (num (zof a).natAbs,0) else (⟨#[]⟩,1)
def negZ (a:ByteArray):ByteArray × Int:=if iv a = true then (it (-zof a),0) else (⟨#[]⟩,1)
theorem ok_and {a b:ByteArray} (h:okB a b = true):iv a = true∧iv b = true:=Bool.and_eq_true_iff.1 h
theorem zAdd_ev (a b:ByteArray) (ha:S1 a) (hb:S1 b):Ev (fun k=>integer_Add.f k a b) (addZ a b):=by
 refine Ev.congr (fun k=>rfl) (Ev.bind (iboth_ev a b ha hb) ?_)
 unfold addZ bothZ
 by_cases h:okB a b = true
 ·obtain ⟨h1,h2⟩:=ok_and h
  have z1:=zs_zof h1 ha
  have z2:=zs_zof h2 hb
  rw [if_pos h,if_pos h]
  refine Ev.congr (fun k=>?_) (Ev.now _)
  rw [if_pos rfl,plus_eq2 z1 z2 (by omega) (by omega),Option.bind_some,(z1.add z2).txt (by omega) (by omega),Option.bind_some]
 ·rw [if_neg h,if_neg h]
  exact Ev.congr (fun k=>if_neg (by simp)) (Ev.now _)
theorem zSub_ev (a b:ByteArray) (ha:S1 a) (hb:S1 b):Ev (fun k=>integer_Sub.f k a b) (subZ a b):=by
 refine Ev.congr (fun k=>rfl) (Ev.bind (iboth_ev a b ha hb) ?_)
 unfold subZ bothZ
 by_cases h:okB a b = true
 ·obtain ⟨h1,h2⟩:=ok_and h
  have z1:=zs_zof h1 ha
  have z2:=(zs_zof h2 hb).neg
  rw [if_pos h,if_pos h]
  refine Ev.congr (fun k=>?_) (Ev.now _)
  rw [if_pos rfl,opp_eq,Option.bind_some,plus_eq2 z1 z2 (by omega) (by omega),Option.bind_some,(z1.add z2).txt (by omega) (by omega),Option.bind_some,Int.sub_eq_add_neg]
 ·rw [if_neg h,if_neg h]
  exact Ev.congr (fun k=>if_neg (by simp)) (Ev.now _)
theorem zMul_ev (a b:ByteArray) (ha:S1 a) (hb:S1 b):Ev (fun k=>integer_Mul.f k a b) (mulZ a b):=by
 refine Ev.congr (fun k=>rfl) (Ev.bind (iboth_ev a b ha hb) ?_)
 unfold mulZ bothZ
 by_cases h:okB a b = true
 ·obtain ⟨h1,h2⟩:=ok_and h
  have z1:=zs_zof h1 ha
  have z2:=zs_zof h2 hb
  rw [if_pos h,if_pos h]
  refine Ev.congr (fun k=>?_) (Ev.now _)
  rw [if_pos rfl,times_eq z1 z2 (by omega) (by omega),Option.bind_some,(z1.mul z2).txt (by omega) (by omega),Option.bind_some]
 ·rw [if_neg h,if_neg h]
  exact Ev.congr (fun k=>if_neg (by simp)) (Ev.now _)
theorem zCompare_ev (a b:ByteArray) (ha:S1 a) (hb:S1 b):Ev (fun k=>integer_Compare.f k a b) (cmpZ a b):=by
 refine Ev.congr (fun k=>rfl) (Ev.bind (iboth_ev a b ha hb) ?_)
 unfold cmpZ bothZ
 by_cases h:okB a b = true
 ·obtain ⟨h1,h2⟩:=ok_and h
  have z1:=zs_zof h1 ha
  have z2:=(zs_zof h2 hb).neg
  rw [if_pos h,if_pos h]
  refine Ev.congr (fun k=>?_) (Ev.now _)
  rw [opp_eq,Option.bind_some,plus_eq2 z1 z2 (by omega) (by omega),Option.bind_some,sign_eq,Option.bind_some,Int.sub_eq_add_neg]
 ·rw [if_neg h,if_neg h]
  have z0:Zs 1 0:=by unfold Zs Sz;decide
  refine Ev.congr (fun k=>?_) (Ev.now _)
  have e2:(⟨#[48]⟩:ByteArray) = (zp 0).2:=by rw [str0];rfl
  dsimp only
  rw [show false = (zp 0).1 from rfl,e2,opp_eq,Option.bind_some,plus_eq2 z0 (z0.neg) (by omega) (by omega),Option.bind_some,sign_eq,Option.bind_some]
  rfl
theorem zDivMod_ev (a b:ByteArray) (ha:S1 a) (hb:S1 b):Ev (fun k=>integer_DivMod.f k a b) (divZ a b):=by
 refine Ev.congr (fun k=>rfl) (Ev.bind (iboth_ev a b ha hb) ?_)
 unfold divZ bothZ
 by_cases h:okB a b = true
 ·obtain ⟨h1,h2⟩:=ok_and h
  have z1:=zs_zof h1 ha
  have z2:=zs_zof h2 hb
  rw [if_pos h,if_pos h]
  refine Ev.congr (fun k=>(if_pos rfl).trans (Option.bind_some _ _)) ?_
  have c0:((zp (zof b)).1 == false && ((zp (zof b)).2.toList == (⟨#[48]⟩:ByteArray).toList)) = decide (zof b = 0):=by
   rw [show (⟨#[48]⟩:ByteArray).toList = ([48]:List UInt8) from toL _,zp_snd,beq0,zp_fst]
   by_cases h0:zof b = 0
   ·rw [h0];rfl
   ·rw [decide_eq_false h0,decide_eq_false (by omega:¬ (zof b).natAbs = 0),Bool.and_false]
  dsimp only
  by_cases h0:zof b = 0
  ·rw [if_pos h0]
   exact Ev.congr (fun k=>if_pos (by rw [c0,h0];rfl)) (Ev.now _)
  ·rw [if_neg h0]
   have zq:Zs 1000 (zof a / zof b):=by
    refine z1.le ?_
    exact Int.natAbs_ediv_le_natAbs _ _
   have zr:Zs 1000 (zof a % zof b):=by
    refine z2.le ?_
    have h5:=Int.emod_nonneg (zof a) h0
    have h6:=Int.emod_lt (zof a) h0
    omega
   refine Ev.congr (fun k=>if_neg (by rw [c0,decide_eq_false h0];simp)) (Ev.bind (divide_ev z1 z2 (by omega) (by omega) h0) (Ev.congr (fun k=>?_) (Ev.now _)))
   rw [zq.txt (by omega) (by omega),Option.bind_some,zr.txt (by omega) (by omega),Option.bind_some]
 ·rw [if_neg h,if_neg h]
  exact Ev.congr (fun k=>if_neg (by simp)) (Ev.now _)
theorem iv0:iv (⟨#[48]⟩:ByteArray) = true:=by rw [str0,← it_nat];exact iv_it _
theorem ione_ev (a:ByteArray) (ha:S1 a):Ev (fun k=>integer_one.f k a) (if iv a = true then ((zp (zof a)).1,(zp (zof a)).2,0) else (false,(⟨#[48]⟩:ByteArray),1)):=by
 refine Ev.congr (fun k=>rfl) (Ev.bind (iboth_ev a (⟨#[48]⟩:ByteArray) ha (show (1:Nat)≤1000 by omega)) ?_)
 unfold bothZ okB
 rw [iv0,Bool.and_true]
 by_cases h:iv a = true
 ·rw [if_pos h,if_pos h];exact Ev.now _
 ·rw [if_neg h,if_neg h];exact Ev.now _
theorem zSign_ev (a:ByteArray) (ha:S1 a):Ev (fun k=>integer_Sign.f k a) (signZ a):=by
 refine Ev.congr (fun k=>rfl) (Ev.bind (ione_ev a ha) ?_)
 unfold signZ
 by_cases h:iv a = true
 ·rw [if_pos h,if_pos h]
  refine Ev.congr (fun k=>?_) (Ev.now _)
  rw [sign_eq,Option.bind_some]
 ·rw [if_neg h,if_neg h]
  have e2:(⟨#[48]⟩:ByteArray) = (zp 0).2:=by rw [str0];rfl
  refine Ev.congr (fun k=>?_) (Ev.now _)
  dsimp only
  rw [show false = (zp 0).1 from rfl,e2,sign_eq,Option.bind_some]
  rfl
theorem zAbs_ev (a:ByteArray) (ha:S1 a):Ev (fun k=>integer_Abs.f k a) (absZ a):=by
 refine Ev.congr (fun k=>rfl) (Ev.bind (ione_ev a ha) ?_)
 unfold absZ
 by_cases h:iv a = true
 ·rw [if_pos h,if_pos h]
  exact Ev.congr (fun k=>if_pos rfl) (Ev.now _)
 ·rw [if_neg h,if_neg h]
  exact Ev.congr (fun k=>if_neg (by simp)) (Ev.now _)
theorem zNeg_ev (a:ByteArray) (ha:S1 a):Ev (fun k=>integer_Neg.f k a) (negZ a):=by
 refine Ev.congr (fun k=>rfl) (Ev.bind (ione_ev a ha) ?_)
 unfold negZ
 by_cases h:iv a = true
 ·have z1:=(zs_zof h ha).neg
  rw [if_pos h,if_pos h]
  refine Ev.congr (fun k=>?_) (Ev.now _)
  rw [if_pos rfl,opp_eq,Option.bind_some,z1.txt (by omega) (by omega),Option.bind_some]
 ·rw [if_neg h,if_neg h]
  exact Ev.congr (fun k=>if_neg (by simp)) (Ev.now _)
theorem zValid_ev (a:ByteArray) (ha:S1 a):Ev (fun k=>integer_Valid.f k a) (iv a):=Ev.congr (fun k=>rfl) (Ev.bind (read_ev a (by unfold S1 at ha;omega)) (Ev.now _))
end Go.Proofs.YtaknchlegjcdhaaGreatDoor.Pr
set_option linter.unusedVariables false
set_option linter.unusedSimpArgs false
namespace Go.Proofs.YtaknchlegjcdhaaGreatDoor.Pr
open Go.RowKit Go.Lib Go.Proofs.YtaknchlegjcdhaaGreatDoorW.PrintWords Go.Proofs.YtaknchlegjcdhaaGreatDoorW.PrintLast Go.Proofs.YtaknchlegjcdhaaGreatDoorW.PrintMore Go.Proofs.YtaknchlegjcdhaaGreatDoor.NatTh
theorem zp_eq0 (z:Int):((zp z).1 == false && ((zp z).2.toList == ([48]:List UInt8))) = decide (z = 0):=by
 rw [zp_snd,beq0,zp_fst]
 by_cases h0:z = 0
 ·rw [h0];rfl
 ·rw [decide_eq_false h0,decide_eq_false (by omega:¬ z.natAbs = 0),Bool.and_false]
theorem bezL_stop (r x y:Int):Ev (fun k=>bezL k (zp r).1 (zp r).2 (zp 0).1 (zp 0).2 (zp x).1 (zp x).2 (zp y).1 (zp y).2) ((zp r).1,(zp r).2,(zp x).1,(zp x).2):=by
 refine Ev.step (f:=fun _=>some _) (fun k=>?_) (Ev.now _)
 rw [bezL,if_pos (by rw [zp_eq0];rfl)]
theorem bezL_step {e:Nat} {r s x y:Int} (hr:Zs e r) (hs:Zs e s) (hx:Zs e x) (hy:Zs e y) (he:1≤e) (h2:e≤40000) (h0:s≠0) {R:Bool × ByteArray × Bool × ByteArray}
  (h:Ev (fun k=>bezL k (zp s).1 (zp s).2 (zp (r % s)).1 (zp (r % s)).2 (zp y).1 (zp y).2 (zp (x - r / s * y)).1 (zp (x - r / s * y)).2) R) :
  Ev (fun k=>bezL k (zp r).1 (zp r).2 (zp s).1 (zp s).2 (zp x).1 (zp x).2 (zp y).1 (zp y).2) R:=by
 have hq:Zs e (r / s):=hr.le (Int.natAbs_ediv_le_natAbs _ _)
 have hp:Zs (e + e) (r / s * y):=hq.mul hy
 refine Ev.step (fun k=>by rw [bezL,if_neg (by rw [zp_eq0,decide_eq_false h0];simp)]) (Ev.bind (divide_ev hr hs he (by omega) h0) ?_)
 refine Ev.congr (fun k=>?_) h
 dsimp only
 rw [times_eq hq hy he (by omega),Option.bind_some,opp_eq,Option.bind_some,plus_eq2 (hx.mono (by omega:e≤e + e)) hp.neg (by omega) (by omega),Option.bind_some,Int.sub_eq_add_neg]
theorem bezT_ev {e:Nat} {n m r x:Int} (hn:Zs e n) (hm:Zs e m) (hr:Zs e r) (hx:Zs e x) (he:1≤e) (h2:e≤20000) (h0:m≠0) (h1:r≠0) (h3:(m.natAbs:Int) / r≠0) :
  Ev (fun k=>bezT k (zp n).1 (zp n).2 (zp m).1 (zp m).2 (zp r).1 (zp r).2 (zp x).1 (zp x).2) (it r,it (x % ((m.natAbs:Int) / r)),it ((r - n * (x % ((m.natAbs:Int) / r))) / m)):=by
 have hm':Zs e (m.natAbs:Int):=hm.le (by rw [Int.natAbs_natCast];exact Nat.le_refl _)
 have hp:Zs e ((m.natAbs:Int) / r):=hm'.le (Int.natAbs_ediv_le_natAbs _ _)
 have hx2:Zs e (x % ((m.natAbs:Int) / r)):=by
  refine hp.le ?_
  have h5:=Int.emod_nonneg x h3
  have h6:=Int.emod_lt x h3
  omega
 have ht:Zs (e + e) (n * (x % ((m.natAbs:Int) / r))):=hn.mul hx2
 have hu:Zs (e + e + 1) (r + -(n * (x % ((m.natAbs:Int) / r)))):=(hr.mono (by omega:e≤e + e)).add ht.neg
 have hz:Zs (e + e + 1) ((r + -(n * (x % ((m.natAbs:Int) / r)))) / m):=hu.le (Int.natAbs_ediv_le_natAbs _ _)
 unfold bezT
 have e1:integer_with.f false (zp m).2 = some (zp (m.natAbs:Int)):=by
  rw [zp_snd,with_eq]
  rfl
 refine Ev.congr (fun k=>by rw [e1,Option.bind_some]) (Ev.bind (divide_ev hm' hr he (by omega) h1) (Ev.bind (divide_ev hx hp he (by omega) h3) ?_))
 refine Ev.congr (fun k=>by rw [times_eq hn hx2 he (by omega),Option.bind_some,opp_eq,Option.bind_some,plus_eq2 (hr.mono (by omega:e≤e + e)) ht.neg (by omega) (by omega),Option.bind_some]) (Ev.bind (divide_ev hu (hm.mono (by omega:e≤e + e + 1)) (by omega) (by omega) h0) (Ev.congr (fun k=>?_) (Ev.now _)))
 rw [hr.txt he (by omega),Option.bind_some,hx2.txt he (by omega),Option.bind_some,hz.txt (by omega) (by omega),Option.bind_some,Int.sub_eq_add_neg]
theorem bez_ev {e:Nat} {n m r x:Int} (hn:Zs e n) (hm:Zs e m) (hr:Zs e r) (hx:Zs e x) (he:1≤e) (h2:e≤20000) (h0:m≠0) (h1:r≠0) (h3:(m.natAbs:Int) / r≠0) (hs1:S1 (it n)) (hs2:S1 (it m))
  (h:Ev (fun k=>bezL k (zp (n.natAbs:Int)).1 (zp (n.natAbs:Int)).2 (zp (m.natAbs:Int)).1 (zp (m.natAbs:Int)).2 (zp 1).1 (zp 1).2 (zp 0).1 (zp 0).2) ((zp r).1,(zp r).2,(zp x).1,(zp x).2)) :
  Ev (fun k=>integer_Bezout.f k (it n) (it m)) (it r,it ((if n < 0 then -x else x) % ((m.natAbs:Int) / r)),it ((r - n * ((if n < 0 then -x else x) % ((m.natAbs:Int) / r))) / m),0):=by
 have b:=iboth_ev (it n) (it m) hs1 hs2
 unfold bothZ at b
 rw [if_pos (by unfold okB;rw [iv_it,iv_it];rfl),zof_it,zof_it] at b
 unfold integer_Bezout.f
 refine Ev.bind b ?_
 refine Ev.congr (fun k=>(if_neg (by simp)).trans (if_neg (by rw [zp_eq0,decide_eq_false h0];simp))) ?_
 have c1:(false,(zp n).2) = zp (n.natAbs:Int):=by rw [zpn];rfl
 have c2:(false,(zp m).2) = zp (m.natAbs:Int):=by rw [zpn];rfl
 have c3:(false,(⟨#[49]⟩:ByteArray)) = zp 1:=by rw [str1];rfl
 have c4:(false,(⟨#[48]⟩:ByteArray)) = zp 0:=by rw [str0];rfl
 have key:∀ k,bezL k false (zp n).2 false (zp m).2 false (⟨#[49]⟩:ByteArray) false (⟨#[48]⟩:ByteArray) = bezL k (zp (n.natAbs:Int)).1 (zp (n.natAbs:Int)).2 (zp (m.natAbs:Int)).1 (zp (m.natAbs:Int)).2 (zp 1).1 (zp 1).2 (zp 0).1 (zp 0).2:=fun k=>by rw [← c1,← c2,← c3,← c4]
 refine Ev.congr (fun k=>congrArg (fun o=>Option.bind o _) (key k)) (Ev.bind h ?_)
 dsimp only
 have hx':Zs e (if n < 0 then -x else x):=by
  split
  ·exact hx.neg
  ·exact hx
 have e3:(if (zp n).1 = true then integer_number_opposite.f (zp x).1 (zp x).2 else some ((zp x).1,(zp x).2)) = some (zp (if n < 0 then -x else x)):=by
  rw [zp_fst]
  by_cases hn0:n < 0
  ·rw [if_pos (decide_eq_true hn0),if_pos hn0,opp_eq]
  ·rw [if_neg (by simpa using hn0),if_neg hn0]
 refine Ev.congr (fun k=>by rw [e3,Option.bind_some]) (Ev.bind (bezT_ev hn hm hr hx' he h2 h0 h1 h3) (Ev.now _))
end Go.Proofs.YtaknchlegjcdhaaGreatDoor.Pr
namespace Go.Proofs.YtaknchlegjcdhaaGreatDoor.Pr
open Go.RowKit Go.Proofs.YtaknchlegjcdhaaGreatDoorW.PrintWords Go.Proofs.YtaknchlegjcdhaaGreatDoorW.PrintLast Go.Proofs.YtaknchlegjcdhaaGreatDoorW.PrintMore
attribute [local go_sem] max2_int min2_int max_two min_two max_three min_three max_four min_four
set_option maxHeartbeats 8000000
set_option maxRecDepth 100000
set_option linter.unusedVariables false
set_option linter.unusedSimpArgs false
def garboardlaw02_long.l0:Nat→List ByteArray→Int→Int→Option (Bool)
 | 0,_,_,_=>none
 | k + 1,x5,x6,x7=>if x7 < x6 then (if 0≤x7 then (if x7 < (x5.length:Int) then (if ((rdOf ByteArray.empty x5 x7).size:Int) > 120 then (some true) else (garboardlaw02_long.l0 k x5 x6 (wrap64 (x7 + 1)))) else (none)) else (none)) else (some false)
def garboardlaw02_long.f (k:Nat) (l0:List ByteArray):Option (Bool):=garboardlaw02_long.l0 k l0 (l0.length:Int) 0
theorem garboardlaw02_long.calls (k:Nat) (A0:Option Addr) (c0:Nat) (l0:List ByteArray) (r:Bool) (w:World) (hr0:Kd.C Kd.string w A0 l0.length l0) (hc0:l0.length≤c0) (h:garboardlaw02_long.f k l0 = some r) :
  Calls Tryz.prog 11 #[.slice A0 l0.length c0] w fun e w'=>e = .returned (.bool r)∧Drawn0 w w':=by
 have HR0:=Aside0.mk hr0
 have HC0:=Aside0.mk hc0
 clear hr0 hc0
 have H:(garboardlaw02_long.l0 k l0 (l0.length:Int) 0) = some r:=h
 clear h
 have H':=Aside0.mk H
 clear H
 go_enter Tryz.func11,Tryz.ntmps11
 go_wp2
 go_loopg [7] k (fun kq v7 w'=>∃ (x7_1:Int),v7 = .int .i64 x7_1∧Aside0 (garboardlaw02_long.l0 kq l0 (l0.length:Int) x7_1 = some r)∧Aside0 (kq≤k)∧Drawn0 w w')
 case atStart=>exact ⟨(0),(by first|rfl|(simp;done)|(simp [*];done)),H',⟨Nat.le_refl _⟩,by repeat (first|exact Drawn0.refl _|apply Drawn0.step)⟩
 case round =>
  clear H'
  try clear c1
  obtain ⟨x7_1,rfl,HA,HK1,⟨m1,rfl⟩⟩:=hrel
  cases gk with
  | zero=>exact absurd HA.out (by simp [garboardlaw02_long.l0])
  | succ k1 =>
   have H:=HA.out
   clear HA
   simp only [garboardlaw02_long.l0] at H
   by_cases c2:x7_1 < (l0.length:Int)
   ·rw [if_pos c2] at H
    have c2b0:decide (x7_1 < (l0.length:Int)) = true:=decide_eq_true c2
    clear c2
    by_cases c3:0≤x7_1
    ·rw [if_pos c3] at H
     have c3b0:decide (0≤x7_1) = true:=decide_eq_true c3
     clear c3
     by_cases c4:x7_1 < (l0.length:Int)
     ·rw [if_pos c4] at H
      have c4b0:decide (x7_1 < (l0.length:Int)) = true:=decide_eq_true c4
      clear c4
      by_cases c5:((rdOf ByteArray.empty l0 x7_1).size:Int) > 120
      ·rw [if_pos c5] at H
       have c5b0:decide (120 < ((rdOf ByteArray.empty l0 x7_1).size:Int)) = true:=decide_eq_true c5
       have c5b1:decide (120 < (rdOf ByteArray.empty l0 x7_1).size) = true:=decide_eq_true (by omega)
       clear c5
       obtain rfl:=Option.some.inj H
       have p413:0≤(x7_1:Int):=da_
       have q413:x7_1 < (l0.length:Int):=da_
       obtain ⟨ad413,e413,hx413_0⟩:=Kd.at_string HR0.out x7_1 p413 q413
       cases e413
       replace p413:=eq_true p413
       replace q413:=eq_true q413
       go_wp2
       go_ret
       exact ⟨by first|rfl|(simp;done)|(simp [*];done),by repeat (first|exact Drawn0.refl _|apply Drawn0.step)⟩
      ·rw [if_neg c5] at H
       have c5b0:decide (120 < ((rdOf ByteArray.empty l0 x7_1).size:Int)) = false:=decide_eq_false c5
       have c5b1:decide (120 < (rdOf ByteArray.empty l0 x7_1).size) = false:=decide_eq_false (by omega)
       clear c5
       have H':=Aside0.mk H
       clear H
       have p413:0≤(x7_1:Int):=da_
       have q413:x7_1 < (l0.length:Int):=da_
       obtain ⟨ad413,e413,hx413_0⟩:=Kd.at_string HR0.out x7_1 p413 q413
       cases e413
       replace p413:=eq_true p413
       replace q413:=eq_true q413
       go_wp2
       go_roundg k1
       case measure=>have:=HK1.out;omega
       case rel=>exact ⟨(wrap64 (x7_1 + 1)),(by first|rfl|(simp;done)|(simp [*];done)),H',⟨by have:=HK1.out;omega⟩,by repeat (first|exact Drawn0.refl _|apply Drawn0.step)⟩
     ·rw [if_neg c4] at H
      exact absurd H sm_
    ·rw [if_neg c3] at H
     exact absurd H sm_
   ·rw [if_neg c2] at H
    have c2b0:decide (x7_1 < (l0.length:Int)) = false:=decide_eq_false c2
    clear c2
    obtain rfl:=Option.some.inj H
    go_wp2
    go_ret
    exact ⟨by first|rfl|(simp;done)|(simp [*];done),by repeat (first|exact Drawn0.refl _|apply Drawn0.step)⟩
end Go.Proofs.YtaknchlegjcdhaaGreatDoor.Pr
set_option linter.unusedVariables false
set_option linter.unusedSimpArgs false
namespace Go.Proofs.YtaknchlegjcdhaaGreatDoor.Pr
open Go.RowKit Go.Lib Go.Proofs.YtaknchlegjcdhaaGreatDoorW.PrintWords Go.Proofs.YtaknchlegjcdhaaGreatDoorW.PrintLast Go.Proofs.YtaknchlegjcdhaaGreatDoorW.PrintMore Go.Proofs.YtaknchlegjcdhaaGreatDoor.NatTh
theorem its_pos (n:Nat) (L:List UInt8) (h:nv ⟨L.toArray⟩ = true) (hn:pv L = n):(⟨L.toArray⟩:ByteArray) = it (n:Int):=by
 rw [it_nat]
 exact bs_inj (by rw [← toL (num n),num_list n L h hn])
theorem its_neg (n:Nat) (L:List UInt8) (h0:0 < n) (h:nv ⟨L.toArray⟩ = true) (hn:pv L = n):(⟨(45 :: L).toArray⟩:ByteArray) = it (-(n:Int)):=by
 unfold it
 rw [if_pos (by omega),Int.natAbs_neg,Int.natAbs_natCast]
 apply bs_inj
 have h2:bs ((⟨#[45]⟩:ByteArray) ++ num n) = [45] ++ bs (num n):=by
  unfold bs
  rw [ByteArray.data_append,Array.toList_append]
 rw [h2,← toL (num n),num_list n L h hn]
 rfl
theorem ok_it (y z:Int):okB (it y) (it z) = true:=by unfold okB;rw [iv_it,iv_it];rfl
theorem add_it (y z:Int):addZ (it y) (it z) = (it (y + z),0):=by unfold addZ;rw [if_pos (ok_it y z),zof_it,zof_it]
theorem sub_it (y z:Int):subZ (it y) (it z) = (it (y - z),0):=by unfold subZ;rw [if_pos (ok_it y z),zof_it,zof_it]
theorem mul_it (y z:Int):mulZ (it y) (it z) = (it (y * z),0):=by unfold mulZ;rw [if_pos (ok_it y z),zof_it,zof_it]
theorem cmp_it (y z:Int):cmpZ (it y) (it z) = ((y - z).sign,0):=by unfold cmpZ;rw [if_pos (ok_it y z),zof_it,zof_it]
theorem div_it (y z:Int) (h:z≠0):divZ (it y) (it z) = (it (y / z),it (y % z),0):=by unfold divZ;rw [if_pos (ok_it y z),zof_it,zof_it,if_neg h]
theorem sign_it (y:Int):signZ (it y) = (y.sign,0):=by unfold signZ;rw [if_pos (iv_it y),zof_it]
theorem abs_it (y:Int):absZ (it y) = (num y.natAbs,0):=by unfold absZ;rw [if_pos (iv_it y),zof_it]
theorem neg_it (y:Int):negZ (it y) = (it (-y),0):=by unfold negZ;rw [if_pos (iv_it y),zof_it]
theorem zs_small (z:Int) (h:z.natAbs < 10000000000):Zs 10 z:=by unfold Zs Sz;omega
theorem it_size {e:Nat} {z:Int} (h:Zs e z) (he:1≤e):(it z).size≤e + 1:=by
 have:=sz_size he h
 unfold it
 split
 ·rw [ByteArray.size_append]
  have:(⟨#[45]⟩:ByteArray).size = 1:=rfl
  omega
 ·omega
theorem Zs.s1 {e:Nat} {z:Int} (h:Zs e z) (he:1≤e) (h2:e≤999):S1 (it z):=by
 have:=it_size h he
 unfold S1
 omega
theorem bezL_step2 {e:Nat} {r s x y t z:Int} (hr:Zs e r) (hs:Zs e s) (hx:Zs e x) (hy:Zs e y) (he:1≤e) (h2:e≤40000) (h0:s≠0) (ht:r % s = t) (hz:x - r / s * y = z) {R:Bool × ByteArray × Bool × ByteArray}
  (h:Ev (fun k=>bezL k (zp s).1 (zp s).2 (zp t).1 (zp t).2 (zp y).1 (zp y).2 (zp z).1 (zp z).2) R) :
  Ev (fun k=>bezL k (zp r).1 (zp r).2 (zp s).1 (zp s).2 (zp x).1 (zp x).2 (zp y).1 (zp y).2) R:=by
 subst ht
 subst hz
 exact bezL_step hr hs hx hy he h2 h0 h
theorem bez_awake:Ev (fun k=>integer_Bezout.f k (it 12) (it (-18))) (it 6,it 2,it 1,0):=by
 have z (n:Int) (h:n.natAbs < 10000000000):=zs_small n h
 have h3:=bezL_step2 (e:=10) (r:=12) (s:=6) (x:=1) (y:=-1) (t:=0) (z:=3) (z _ (by decide)) (z _ (by decide)) (z _ (by decide)) (z _ (by decide)) (by omega) (by omega) (by decide) (by decide) (by decide) (bezL_stop 6 (-1) 3)
 have h2:=bezL_step2 (e:=10) (r:=18) (s:=12) (x:=0) (y:=1) (z _ (by decide)) (z _ (by decide)) (z _ (by decide)) (z _ (by decide)) (by omega) (by omega) (by decide) (by decide) (by decide) h3
 have h1:=bezL_step2 (e:=10) (r:=12) (s:=18) (x:=1) (y:=0) (z _ (by decide)) (z _ (by decide)) (z _ (by decide)) (z _ (by decide)) (by omega) (by omega) (by decide) (by decide) (by decide) h2
 have h:=bez_ev (e:=10) (n:=12) (m:=-18) (r:=6) (x:=-1) (z _ (by decide)) (z _ (by decide)) (z _ (by decide)) (z _ (by decide)) (by omega) (by omega) (by decide) (by decide) (by decide) ((z 12 (by decide)).s1 (by omega) (by omega)) ((z (-18) (by decide)).s1 (by omega) (by omega)) h1
 rw [show ((if (12:Int) < 0 then -(-1) else -1) % (((-18:Int).natAbs:Int) / 6)) = 2 by decide,show ((6:Int) - 12 * 2) / -18 = 1 by decide] at h
 exact h
theorem a_m7:(⟨#[45,55]⟩:ByteArray) = it (-7):=its_neg 7 [55] (by omega) (by decide +kernel) (by decide +kernel)
theorem a_m5:(⟨#[45,53]⟩:ByteArray) = it (-5):=its_neg 5 [53] (by omega) (by decide +kernel) (by decide +kernel)
theorem a_m2:(⟨#[45,50]⟩:ByteArray) = it (-2):=its_neg 2 [50] (by omega) (by decide +kernel) (by decide +kernel)
theorem a_m1:(⟨#[45,49]⟩:ByteArray) = it (-1):=its_neg 1 [49] (by omega) (by decide +kernel) (by decide +kernel)
theorem a_m18:(⟨#[45,49,56]⟩:ByteArray) = it (-18):=its_neg 18 [49,56] (by omega) (by decide +kernel) (by decide +kernel)
theorem a_2:(⟨#[50]⟩:ByteArray) = it 2:=its_pos 2 [50] (by decide +kernel) (by decide +kernel)
theorem a_3:(⟨#[51]⟩:ByteArray) = it 3:=its_pos 3 [51] (by decide +kernel) (by decide +kernel)
theorem a_12:(⟨#[49,50]⟩:ByteArray) = it 12:=its_pos 12 [49,50] (by decide +kernel) (by decide +kernel)
theorem it_pl (n:Nat) (L:List UInt8) (h:nv ⟨L.toArray⟩ = true) (hn:pv L = n):(it (n:Int)).toList = L:=by rw [← its_pos n L h hn,toL]
theorem it_nl (n:Nat) (L:List UInt8) (h0:0 < n) (h:nv ⟨L.toArray⟩ = true) (hn:pv L = n):(it (-(n:Int))).toList = 45 :: L:=by rw [← its_neg n L h0 h hn,toL]
theorem ngB_m:iv (⟨#[45,48]⟩:ByteArray) = false:=by
 unfold iv
 rw [toL]
 decide +kernel
theorem ngB_n:iv (⟨#[45]⟩:ByteArray) = false:=by
 unfold iv
 rw [toL]
 decide +kernel
theorem awake_ev:Ev (fun k=>garboardlaw02_awake.f k) true:=by
 have z (n:Int) (h:n.natAbs < 10000000000):S1 (it n):=(zs_small n h).s1 (by omega) (by omega)
 have a1:=zDivMod_ev _ _ (z (-7) (by decide)) (z 2 (by decide))
 have a2:=zDivMod_ev _ _ (z (-7) (by decide)) (z (-2) (by decide))
 have a4:=zAdd_ev _ _ (z (-5) (by decide)) (z 3 (by decide))
 have a5:=zSub_ev _ _ (z (-5) (by decide)) (z 3 (by decide))
 have a6:=zMul_ev _ _ (z (-5) (by decide)) (z 3 (by decide))
 have a7:=zSign_ev _ (z (-5) (by decide))
 have a8:=zAbs_ev _ (z (-5) (by decide))
 have a9:=zNeg_ev _ (z (-5) (by decide))
 have a10:=zCompare_ev _ _ (z (-5) (by decide)) (z 3 (by decide))
 have v1:=zValid_ev _ (z (-1) (by decide))
 have v2:=zValid_ev (⟨#[45,48]⟩:ByteArray) (show (2:Nat)≤1000 by omega)
 have v3:=zValid_ev (⟨#[45]⟩:ByteArray) (show (1:Nat)≤1000 by omega)
 rw [div_it _ _ (by decide)] at a1 a2
 rw [show (-7:Int) / 2 = -4 by decide,show (-7:Int) % 2 = 1 by decide] at a1
 rw [show (-7:Int) / -2 = 4 by decide,show (-7:Int) % -2 = 1 by decide] at a2
 rw [add_it,show (-5:Int) + 3 = -2 by decide] at a4
 rw [sub_it,show (-5:Int) - 3 = -8 by decide] at a5
 rw [mul_it,show (-5:Int) * 3 = -15 by decide] at a6
 rw [sign_it] at a7
 rw [abs_it,show (-5:Int).natAbs = 5 by decide] at a8
 rw [neg_it,show -(-5:Int) = 5 by decide] at a9
 rw [cmp_it] at a10
 rw [iv_it] at v1
 rw [ngB_m] at v2
 rw [ngB_n] at v3
 have f7:integer_From.f (-7) = some (⟨#[45,55]⟩:ByteArray):=by decide +kernel
 unfold garboardlaw02_awake.f
 rw [a_m7,a_m5,a_m2,a_m1,a_m18,a_2,a_3,a_12]
 refine Ev.bind a1 (Ev.bind a2 (Ev.bind bez_awake (Ev.bind a4 (Ev.bind a5 (Ev.bind a6 (Ev.bind a7 (Ev.bind a8 (Ev.bind a9 (Ev.bind a10 ?_)))))))))
 have fin:Ev (fun k=>(integer_Valid.f k (it (-1))).bind fun t410=>(if t410 = true then ((integer_Valid.f k (⟨#[45,48]⟩:ByteArray)).bind fun t411=>(if t411 = true then (some false) else ((integer_Valid.f k (⟨#[45]⟩:ByteArray)).bind fun t412=>(some (!t412))))) else (some false))) true :=
  Ev.bind v1 (Ev.congr (fun k=>if_pos rfl) (Ev.bind v2 (Ev.congr (fun k=>if_neg (by simp)) (Ev.bind v3 (Ev.now _)))))
 refine Ev.congr (fun k=>?_) fin
 dsimp only
 rw [if_pos (by decide +kernel),if_pos (show (it (-4)).toList = ([45,52]:List UInt8) from it_nl 4 [52] (by omega) (by decide +kernel) (by decide +kernel)),if_pos (show (it 1).toList = ([49]:List UInt8) from it_pl 1 [49] (by decide +kernel) (by decide +kernel)),if_pos (show (it 4).toList = ([52]:List UInt8) from it_pl 4 [52] (by decide +kernel) (by decide +kernel)),if_pos (show (it 1).toList = ([49]:List UInt8) from it_pl 1 [49] (by decide +kernel) (by decide +kernel)),if_pos (show (it 6).toList = ([54]:List UInt8) from it_pl 6 [54] (by decide +kernel) (by decide +kernel)),if_pos (show (it 2).toList = ([50]:List UInt8) from it_pl 2 [50] (by decide +kernel) (by decide +kernel)),if_pos (show (it 1).toList = ([49]:List UInt8) from it_pl 1 [49] (by decide +kernel) (by decide +kernel)),
  if_pos (show (it (-2)).toList = ([45,50]:List UInt8) from it_nl 2 [50] (by omega) (by decide +kernel) (by decide +kernel)),if_pos (show (it (-8)).toList = ([45,56]:List UInt8) from it_nl 8 [56] (by omega) (by decide +kernel) (by decide +kernel)),if_pos (show (it (-15)).toList = ([45,49,53]:List UInt8) from it_nl 15 [49,53] (by omega) (by decide +kernel) (by decide +kernel)),if_pos (by rfl),if_pos (num_list 5 [53] (by decide +kernel) (by decide +kernel)),if_pos (show (it 5).toList = ([53]:List UInt8) from it_pl 5 [53] (by decide +kernel) (by decide +kernel)),if_pos (by rfl),f7,Option.bind_some,if_pos (toL _)]
theorem awake_true {k:Nat} {r:Bool} (h:garboardlaw02_awake.f k = some r):r = true:=by
 obtain ⟨K,hK⟩:=awake_ev
 have h1:=at_rounds (g:=fun k=>garboardlaw02_awake.f k) garboardlaw02_awake.mono (Nat.le_max_left k K) h
 exact Option.some.inj (h1.symm.trans (hK _ (Nat.le_max_right k K)))
theorem long_loop (l:List ByteArray) (hs:l.length < 1000):∀ (m n:Nat),n + m = l.length→∀ k,garboardlaw02_long.l0 (k + 1 + m) l l.length n = some ((l.drop n).any fun s=>decide (120 < s.size)):=by
 intro m
 induction m with
 | zero =>
  intro n hn k
  show garboardlaw02_long.l0 (k + 1) l l.length n = _
  unfold garboardlaw02_long.l0
  rw [if_neg (by omega),List.drop_of_length_le (by omega)]
  rfl
 | succ m ih =>
  intro n hn k
  have hnl:n < l.length:=by omega
  rw [List.drop_eq_getElem_cons hnl,List.any_cons,show k + 1 + (m + 1) = k + 1 + m + 1 by omega]
  unfold garboardlaw02_long.l0
  rw [if_pos (by omega),if_pos (by omega),if_pos (by omega),wi1 n (by omega),ih (n + 1) (by omega) k]
  have e:∀ d,rdOf d l (n:Int) = l[n]:=fun d=>by
   unfold rdOf
   rw [Int.toNat_natCast,List.getD_eq_getElem?_getD,List.getElem?_eq_getElem hnl]
   rfl
  rw [e]
  by_cases h:(l[n].size:Int) > 120
  ·rw [if_pos h,decide_eq_true (by omega)]
   rfl
  ·rw [if_neg h,decide_eq_false (by omega)]
   rfl
theorem long_ev (l:List ByteArray) (hs:l.length < 1000):Ev (fun k=>garboardlaw02_long.f k l) (l.any fun s=>decide (120 < s.size)):=by
 refine ⟨l.length + 1,fun k hk=>?_⟩
 obtain ⟨k,rfl⟩:∃ j,k = j + 1 + l.length:=⟨k - 1 - l.length,by omega⟩
 simp only [garboardlaw02_long.f]
 have h:=long_loop l hs l.length 0 (by omega) k
 rw [List.drop_zero] at h
 exact h
theorem law_head (l:List ByteArray) (hl:l.length < 1000) (j:Nat→Bool→Option Bool) (f:Nat→Option Bool) (hf:∀ k,f k = (garboardlaw02_awake.f k).bind fun t=>(if t = true then ((garboardlaw02_long.f k l).bind fun t2=>j k t2) else j k true))
  (hj:∀ k,j (k + 1) true = (garboardlaw02_awake.f k).bind fun t=>some t) (h:(∀ s ∈ l,s.size≤120)→Ev (fun k=>j k false) true):Ev f true:=by
 refine Ev.congr hf (Ev.bind awake_ev (Ev.congr (fun k=>if_pos rfl) (Ev.bind (long_ev l hl) ?_)))
 cases hb:(l.any fun s=>decide (120 < s.size)) with
 | true=>exact Ev.step hj (Ev.bind awake_ev (Ev.now _))
 | false =>
  refine h (fun s hs=>?_)
  have:=List.any_eq_false.1 hb s hs
  simpa using this
end Go.Proofs.YtaknchlegjcdhaaGreatDoor.Pr
namespace Go.Proofs.YtaknchlegjcdhaaGreatDoor.Pr
open Go.RowKit Go.Proofs.YtaknchlegjcdhaaGreatDoorW.PrintWords Go.Proofs.YtaknchlegjcdhaaGreatDoorW.PrintLast Go.Proofs.YtaknchlegjcdhaaGreatDoorW.PrintMore
attribute [local go_sem] max2_int min2_int max_two min_two max_three min_three max_four min_four
set_option maxHeartbeats 8000000
set_option maxRecDepth 100000
set_option linter.unusedVariables false
set_option linter.unusedSimpArgs false
theorem garboardlaw02_awake.calls (k:Nat)  (r:Bool) (w:World) (hL:LaidW w) (h:garboardlaw02_awake.f k  = some r) :
  Calls Tryz.prog 10 #[] w fun e w'=>e = .returned (.bool r)∧Below w.heap.size w w':=by
 have HB:=Aside0.mk (Below.refl w.heap.size w)
 have HLW:=Aside0.mk hL
 clear hL
 have HRT:=Aside0.mk (awake_true h)
 have H:((integer_DivMod.f k (⟨#[45,55]⟩:ByteArray) (⟨#[50]⟩:ByteArray)).bind fun bt385=>((integer_DivMod.f k (⟨#[45,55]⟩:ByteArray) (⟨#[45,50]⟩:ByteArray)).bind fun bt388=>((integer_Bezout.f k (⟨#[49,50]⟩:ByteArray) (⟨#[45,49,56]⟩:ByteArray)).bind fun bt391=>((integer_Add.f k (⟨#[45,53]⟩:ByteArray) (⟨#[51]⟩:ByteArray)).bind fun bt395=>((integer_Sub.f k (⟨#[45,53]⟩:ByteArray) (⟨#[51]⟩:ByteArray)).bind fun bt397=>((integer_Mul.f k (⟨#[45,53]⟩:ByteArray) (⟨#[51]⟩:ByteArray)).bind fun bt399=>((integer_Sign.f k (⟨#[45,53]⟩:ByteArray)).bind fun bt401=>((integer_Abs.f k (⟨#[45,53]⟩:ByteArray)).bind fun bt403=>((integer_Neg.f k (⟨#[45,53]⟩:ByteArray)).bind fun bt405=>((integer_Compare.f k (⟨#[45,53]⟩:ByteArray) (⟨#[51]⟩:ByteArray)).bind fun bt407=>(if (wrap64 ((wrap64 ((wrap64 ((wrap64 ((wrap64 ((wrap64 ((wrap64 ((wrap64 ((wrap64 (bt385.2.2 + bt388.2.2)) + bt391.2.2.2)) + bt395.2)) + bt397.2)) + bt399.2)) + bt401.2)) + bt403.2)) + bt405.2)) + bt407.2)) = 0 then (if bt385.1.toList = ([45,52]:List UInt8) then (if bt385.2.1.toList = ([49]:List UInt8) then (if bt388.1.toList = ([52]:List UInt8) then (if bt388.2.1.toList = ([49]:List UInt8) then (if bt391.1.toList = ([54]:List UInt8) then (if bt391.2.1.toList = ([50]:List UInt8) then (if bt391.2.2.1.toList = ([49]:List UInt8) then (if bt395.1.toList = ([45,50]:List UInt8) then (if bt397.1.toList = ([45,56]:List UInt8) then (if bt399.1.toList = ([45,49,53]:List UInt8) then (if bt401.1 = (-1) then (if bt403.1.toList = ([53]:List UInt8) then (if bt405.1.toList = ([53]:List UInt8) then (if bt407.1 = (-1) then ((integer_From.f (-7)).bind fun t409=>(if t409.toList = ([45,55]:List UInt8) then ((integer_Valid.f k (⟨#[45,49]⟩:ByteArray)).bind fun t410=>(if t410 = true then ((integer_Valid.f k (⟨#[45,48]⟩:ByteArray)).bind fun t411=>(if t411 = true then (some false) else ((integer_Valid.f k (⟨#[45]⟩:ByteArray)).bind fun t412=>(some (!t412))))) else (some false))) else (some false))) else (some false)) else (some false)) else (some false)) else (some false)) else (some false)) else (some false)) else (some false)) else (some false)) else (some false)) else (some false)) else (some false)) else (some false)) else (some false)) else (some false)) else (some false)))))))))))) = some r:=h
 clear h
 obtain ⟨⟨t385,t386,t387⟩,A1,H⟩:=bn_ H
 dsimp only at H
 obtain ⟨⟨t388,t389,t390⟩,A2,H⟩:=bn_ H
 dsimp only at H
 obtain ⟨⟨t391,t392,t393,t394⟩,A3,H⟩:=bn_ H
 dsimp only at H
 obtain ⟨⟨t395,t396⟩,A4,H⟩:=bn_ H
 dsimp only at H
 obtain ⟨⟨t397,t398⟩,A5,H⟩:=bn_ H
 dsimp only at H
 obtain ⟨⟨t399,t400⟩,A6,H⟩:=bn_ H
 dsimp only at H
 obtain ⟨⟨t401,t402⟩,A7,H⟩:=bn_ H
 dsimp only at H
 obtain ⟨⟨t403,t404⟩,A8,H⟩:=bn_ H
 dsimp only at H
 obtain ⟨⟨t405,t406⟩,A9,H⟩:=bn_ H
 dsimp only at H
 obtain ⟨⟨t407,t408⟩,A10,H⟩:=bn_ H
 dsimp only at H
 by_cases c11:(wrap64 ((wrap64 ((wrap64 ((wrap64 ((wrap64 ((wrap64 ((wrap64 ((wrap64 ((wrap64 (t387 + t390)) + t394)) + t396)) + t398)) + t400)) + t402)) + t404)) + t406)) + t408)) = 0
 ·rw [if_pos c11] at H
  have c11b0:((wrap64 ((wrap64 ((wrap64 ((wrap64 ((wrap64 ((wrap64 ((wrap64 ((wrap64 ((wrap64 (t387 + t390)) + t394)) + t396)) + t398)) + t400)) + t402)) + t404)) + t406)) + t408)) == 0) = true:=beq_iff_eq.mpr c11
  have c11b1:((wrap64 ((wrap64 ((wrap64 ((wrap64 ((wrap64 ((wrap64 ((wrap64 ((wrap64 ((wrap64 (t387 + t390)) + t394)) + t396)) + t398)) + t400)) + t402)) + t404)) + t406)) + t408)) != 0) = false:=bne_eq_false_iff_eq.mpr c11
  clear c11
  by_cases c12:t385.toList = ([45,52]:List UInt8)
  ·rw [if_pos c12] at H
   have c12b0:(t385.toList == ([45,52]:List UInt8)) = true:=beq_iff_eq.mpr c12
   have c12b1:(t385.toList != ([45,52]:List UInt8)) = false:=bne_eq_false_iff_eq.mpr c12
   clear c12
   by_cases c13:t386.toList = ([49]:List UInt8)
   ·rw [if_pos c13] at H
    have c13b0:(t386.toList == ([49]:List UInt8)) = true:=beq_iff_eq.mpr c13
    have c13b1:(t386.toList != ([49]:List UInt8)) = false:=bne_eq_false_iff_eq.mpr c13
    clear c13
    by_cases c14:t388.toList = ([52]:List UInt8)
    ·rw [if_pos c14] at H
     have c14b0:(t388.toList == ([52]:List UInt8)) = true:=beq_iff_eq.mpr c14
     have c14b1:(t388.toList != ([52]:List UInt8)) = false:=bne_eq_false_iff_eq.mpr c14
     clear c14
     by_cases c15:t389.toList = ([49]:List UInt8)
     ·rw [if_pos c15] at H
      have c15b0:(t389.toList == ([49]:List UInt8)) = true:=beq_iff_eq.mpr c15
      have c15b1:(t389.toList != ([49]:List UInt8)) = false:=bne_eq_false_iff_eq.mpr c15
      clear c15
      by_cases c16:t391.toList = ([54]:List UInt8)
      ·rw [if_pos c16] at H
       have c16b0:(t391.toList == ([54]:List UInt8)) = true:=beq_iff_eq.mpr c16
       have c16b1:(t391.toList != ([54]:List UInt8)) = false:=bne_eq_false_iff_eq.mpr c16
       clear c16
       by_cases c17:t392.toList = ([50]:List UInt8)
       ·rw [if_pos c17] at H
        have c17b0:(t392.toList == ([50]:List UInt8)) = true:=beq_iff_eq.mpr c17
        have c17b1:(t392.toList != ([50]:List UInt8)) = false:=bne_eq_false_iff_eq.mpr c17
        clear c17
        by_cases c18:t393.toList = ([49]:List UInt8)
        ·rw [if_pos c18] at H
         have c18b0:(t393.toList == ([49]:List UInt8)) = true:=beq_iff_eq.mpr c18
         have c18b1:(t393.toList != ([49]:List UInt8)) = false:=bne_eq_false_iff_eq.mpr c18
         clear c18
         by_cases c19:t395.toList = ([45,50]:List UInt8)
         ·rw [if_pos c19] at H
          have c19b0:(t395.toList == ([45,50]:List UInt8)) = true:=beq_iff_eq.mpr c19
          have c19b1:(t395.toList != ([45,50]:List UInt8)) = false:=bne_eq_false_iff_eq.mpr c19
          clear c19
          by_cases c20:t397.toList = ([45,56]:List UInt8)
          ·rw [if_pos c20] at H
           have c20b0:(t397.toList == ([45,56]:List UInt8)) = true:=beq_iff_eq.mpr c20
           have c20b1:(t397.toList != ([45,56]:List UInt8)) = false:=bne_eq_false_iff_eq.mpr c20
           clear c20
           by_cases c21:t399.toList = ([45,49,53]:List UInt8)
           ·rw [if_pos c21] at H
            have c21b0:(t399.toList == ([45,49,53]:List UInt8)) = true:=beq_iff_eq.mpr c21
            have c21b1:(t399.toList != ([45,49,53]:List UInt8)) = false:=bne_eq_false_iff_eq.mpr c21
            clear c21
            by_cases c22:t401 = (-1)
            ·rw [if_pos c22] at H
             have c22b0:(t401 == (-1)) = true:=beq_iff_eq.mpr c22
             have c22b1:(t401 != (-1)) = false:=bne_eq_false_iff_eq.mpr c22
             clear c22
             by_cases c23:t403.toList = ([53]:List UInt8)
             ·rw [if_pos c23] at H
              have c23b0:(t403.toList == ([53]:List UInt8)) = true:=beq_iff_eq.mpr c23
              have c23b1:(t403.toList != ([53]:List UInt8)) = false:=bne_eq_false_iff_eq.mpr c23
              clear c23
              by_cases c24:t405.toList = ([53]:List UInt8)
              ·rw [if_pos c24] at H
               have c24b0:(t405.toList == ([53]:List UInt8)) = true:=beq_iff_eq.mpr c24
               have c24b1:(t405.toList != ([53]:List UInt8)) = false:=bne_eq_false_iff_eq.mpr c24
               clear c24
               by_cases c25:t407 = (-1)
               ·rw [if_pos c25] at H
                have c25b0:(t407 == (-1)) = true:=beq_iff_eq.mpr c25
                have c25b1:(t407 != (-1)) = false:=bne_eq_false_iff_eq.mpr c25
                clear c25
                obtain ⟨t409,A26,H⟩:=bn_ H
                by_cases c27:t409.toList = ([45,55]:List UInt8)
                ·rw [if_pos c27] at H
                 have c27b0:(t409.toList == ([45,55]:List UInt8)) = true:=beq_iff_eq.mpr c27
                 have c27b1:(t409.toList != ([45,55]:List UInt8)) = false:=bne_eq_false_iff_eq.mpr c27
                 clear c27
                 obtain ⟨t410,A28,H⟩:=bn_ H
                 by_cases c29:t410 = true
                 ·subst c29
                  have H1:((integer_Valid.f k (⟨#[45,48]⟩:ByteArray)).bind fun t411=>(if t411 = true then (some false) else ((integer_Valid.f k (⟨#[45]⟩:ByteArray)).bind fun t412=>(some (!t412))))) = some r:=by rw [if_pos rfl] at H;exact H
                  clear H
                  have H:=H1
                  clear H1
                  obtain ⟨t411,A30,H⟩:=bn_ H
                  by_cases c31:t411 = true
                  ·subst c31
                   have H1:(some false) = some r:=by rw [if_pos rfl] at H;exact H
                   clear H
                   have H:=H1
                   clear H1
                   exact absurd (Option.some.inj H) (by rw [HRT.out];decide)
                  ·replace c31:=Bool.eq_false_iff.mpr c31
                   subst c31
                   have H1:((integer_Valid.f k (⟨#[45]⟩:ByteArray)).bind fun t412=>(some (!t412))) = some r:=by rw [if_neg (show ¬ (false = true) by decide)] at H;exact H
                   clear H
                   have H:=H1
                   clear H1
                   obtain ⟨t412,A45,H⟩:=bn_ H
                   obtain rfl:=Option.some.inj H
                   go_enter Tryz.func10,Tryz.ntmps10
                   go_wp2_with (first|((with_reducible refine gate_callee (f:=30) rfl ?_);refine gl_ (some 26) Tryz.func30 #[.string (⟨#[45,55]⟩:ByteArray),.string (⟨#[50]⟩:ByteArray)] (integer_DivMod.calls k (⟨#[45,55]⟩:ByteArray) (⟨#[50]⟩:ByteArray) t385 t386 t387 _ (HLW.out.below bx_) A1.out) ?_;clear HB;intro w46 hb HB;clear hb)|((with_reducible refine gate_callee (f:=30) rfl ?_);refine gl_ (some 31) Tryz.func30 #[.string (⟨#[45,55]⟩:ByteArray),.string (⟨#[45,50]⟩:ByteArray)] (integer_DivMod.calls k (⟨#[45,55]⟩:ByteArray) (⟨#[45,50]⟩:ByteArray) t388 t389 t390 _ (HLW.out.below bx_) A2.out) ?_;clear HB;intro w47 hb HB;clear hb)|((with_reducible refine gate_callee (f:=32) rfl ?_);refine gl_ (some 36) Tryz.func32 #[.string (⟨#[49,50]⟩:ByteArray),.string (⟨#[45,49,56]⟩:ByteArray)] (integer_Bezout.calls k (⟨#[49,50]⟩:ByteArray) (⟨#[45,49,56]⟩:ByteArray) t391 t392 t393 t394 _ (HLW.out.below bx_) A3.out) ?_;clear HB;intro w48 hb HB;clear hb)|((with_reducible refine gate_callee (f:=24) rfl ?_);refine gl_ (some 42) Tryz.func24 #[.string (⟨#[45,53]⟩:ByteArray),.string (⟨#[51]⟩:ByteArray)] (integer_Add.calls k (⟨#[45,53]⟩:ByteArray) (⟨#[51]⟩:ByteArray) t395 t396 _ (HLW.out.below bx_) A4.out) ?_;clear HB;intro w49 hb HB;clear hb)|((with_reducible refine gate_callee (f:=26) rfl ?_);refine gl_ (some 46) Tryz.func26 #[.string (⟨#[45,53]⟩:ByteArray),.string (⟨#[51]⟩:ByteArray)] (integer_Sub.calls k (⟨#[45,53]⟩:ByteArray) (⟨#[51]⟩:ByteArray) t397 t398 _ (HLW.out.below bx_) A5.out) ?_;clear HB;intro w50 hb HB;clear hb)|((with_reducible refine gate_callee (f:=28) rfl ?_);refine gl_ (some 50) Tryz.func28 #[.string (⟨#[45,53]⟩:ByteArray),.string (⟨#[51]⟩:ByteArray)] (integer_Mul.calls k (⟨#[45,53]⟩:ByteArray) (⟨#[51]⟩:ByteArray) t399 t400 _ (HLW.out.below bx_) A6.out) ?_;clear HB;intro w51 hb HB;clear hb)|((with_reducible refine gate_callee (f:=12) rfl ?_);refine gl_ (some 54) Tryz.func12 #[.string (⟨#[45,53]⟩:ByteArray)] (integer_Sign.calls k (⟨#[45,53]⟩:ByteArray) t401 t402 _ A7.out) ?_;clear HB;intro w52 hb HB;clear hb)|((with_reducible refine gate_callee (f:=14) rfl ?_);refine gl_ (some 58) Tryz.func14 #[.string (⟨#[45,53]⟩:ByteArray)] (integer_Abs.calls k (⟨#[45,53]⟩:ByteArray) t403 t404 _ A8.out) ?_;clear HB;intro w53 hb HB;clear hb)|((with_reducible refine gate_callee (f:=16) rfl ?_);refine gl_ (some 62) Tryz.func16 #[.string (⟨#[45,53]⟩:ByteArray)] (integer_Neg.calls k (⟨#[45,53]⟩:ByteArray) t405 t406 _ A9.out) ?_;clear HB;intro w54 hb HB;clear hb)|((with_reducible refine gate_callee (f:=22) rfl ?_);refine gl_ (some 66) Tryz.func22 #[.string (⟨#[45,53]⟩:ByteArray),.string (⟨#[51]⟩:ByteArray)] (integer_Compare.calls k (⟨#[45,53]⟩:ByteArray) (⟨#[51]⟩:ByteArray) t407 t408 _ (HLW.out.below bx_) A10.out) ?_;clear HB;intro w55 hb HB;clear hb)|(go_at_call 20;(with_reducible refine (integer_From.calls (-7) t409 _ (HLW.out.below bx_) A26.out).mono ?_);rintro e w56 ⟨rfl,hb⟩;replace HB:=bs_ hb;(try clear hb))|(go_at_call 18;(with_reducible refine (integer_Valid.calls k (⟨#[45,49]⟩:ByteArray) true _ A28.out).mono ?_);rintro e w57 ⟨rfl,hb⟩;replace HB:=bs_ hb;(try clear hb))|(go_at_call 18;(with_reducible refine (integer_Valid.calls k (⟨#[45,48]⟩:ByteArray) false _ A30.out).mono ?_);rintro e w58 ⟨rfl,hb⟩;replace HB:=bs_ hb;(try clear hb))|(go_at_call 18;(with_reducible refine (integer_Valid.calls k (⟨#[45]⟩:ByteArray) t412 _ A45.out).mono ?_);rintro e w59 ⟨rfl,hb⟩;replace HB:=bs_ hb;(try clear hb)))
                   go_ret
                   exact ⟨rf_,bx_⟩
                 ·replace c29:=Bool.eq_false_iff.mpr c29
                  subst c29
                  have H1:(some false) = some r:=by rw [if_neg (show ¬ (false = true) by decide)] at H;exact H
                  clear H
                  have H:=H1
                  clear H1
                  exact absurd (Option.some.inj H) (by rw [HRT.out];decide)
                ·rw [if_neg c27] at H
                 have c27b0:(t409.toList == ([45,55]:List UInt8)) = false:=beq_eq_false_iff_ne.mpr c27
                 have c27b1:(t409.toList != ([45,55]:List UInt8)) = true:=bne_iff_ne.mpr c27
                 exact absurd (Option.some.inj H) (by rw [HRT.out];decide)
               ·rw [if_neg c25] at H
                have c25b0:(t407 == (-1)) = false:=beq_eq_false_iff_ne.mpr c25
                have c25b1:(t407 != (-1)) = true:=bne_iff_ne.mpr c25
                exact absurd (Option.some.inj H) (by rw [HRT.out];decide)
              ·rw [if_neg c24] at H
               have c24b0:(t405.toList == ([53]:List UInt8)) = false:=beq_eq_false_iff_ne.mpr c24
               have c24b1:(t405.toList != ([53]:List UInt8)) = true:=bne_iff_ne.mpr c24
               exact absurd (Option.some.inj H) (by rw [HRT.out];decide)
             ·rw [if_neg c23] at H
              have c23b0:(t403.toList == ([53]:List UInt8)) = false:=beq_eq_false_iff_ne.mpr c23
              have c23b1:(t403.toList != ([53]:List UInt8)) = true:=bne_iff_ne.mpr c23
              exact absurd (Option.some.inj H) (by rw [HRT.out];decide)
            ·rw [if_neg c22] at H
             have c22b0:(t401 == (-1)) = false:=beq_eq_false_iff_ne.mpr c22
             have c22b1:(t401 != (-1)) = true:=bne_iff_ne.mpr c22
             exact absurd (Option.some.inj H) (by rw [HRT.out];decide)
           ·rw [if_neg c21] at H
            have c21b0:(t399.toList == ([45,49,53]:List UInt8)) = false:=beq_eq_false_iff_ne.mpr c21
            have c21b1:(t399.toList != ([45,49,53]:List UInt8)) = true:=bne_iff_ne.mpr c21
            exact absurd (Option.some.inj H) (by rw [HRT.out];decide)
          ·rw [if_neg c20] at H
           have c20b0:(t397.toList == ([45,56]:List UInt8)) = false:=beq_eq_false_iff_ne.mpr c20
           have c20b1:(t397.toList != ([45,56]:List UInt8)) = true:=bne_iff_ne.mpr c20
           exact absurd (Option.some.inj H) (by rw [HRT.out];decide)
         ·rw [if_neg c19] at H
          have c19b0:(t395.toList == ([45,50]:List UInt8)) = false:=beq_eq_false_iff_ne.mpr c19
          have c19b1:(t395.toList != ([45,50]:List UInt8)) = true:=bne_iff_ne.mpr c19
          exact absurd (Option.some.inj H) (by rw [HRT.out];decide)
        ·rw [if_neg c18] at H
         have c18b0:(t393.toList == ([49]:List UInt8)) = false:=beq_eq_false_iff_ne.mpr c18
         have c18b1:(t393.toList != ([49]:List UInt8)) = true:=bne_iff_ne.mpr c18
         exact absurd (Option.some.inj H) (by rw [HRT.out];decide)
       ·rw [if_neg c17] at H
        have c17b0:(t392.toList == ([50]:List UInt8)) = false:=beq_eq_false_iff_ne.mpr c17
        have c17b1:(t392.toList != ([50]:List UInt8)) = true:=bne_iff_ne.mpr c17
        exact absurd (Option.some.inj H) (by rw [HRT.out];decide)
      ·rw [if_neg c16] at H
       have c16b0:(t391.toList == ([54]:List UInt8)) = false:=beq_eq_false_iff_ne.mpr c16
       have c16b1:(t391.toList != ([54]:List UInt8)) = true:=bne_iff_ne.mpr c16
       exact absurd (Option.some.inj H) (by rw [HRT.out];decide)
     ·rw [if_neg c15] at H
      have c15b0:(t389.toList == ([49]:List UInt8)) = false:=beq_eq_false_iff_ne.mpr c15
      have c15b1:(t389.toList != ([49]:List UInt8)) = true:=bne_iff_ne.mpr c15
      exact absurd (Option.some.inj H) (by rw [HRT.out];decide)
    ·rw [if_neg c14] at H
     have c14b0:(t388.toList == ([52]:List UInt8)) = false:=beq_eq_false_iff_ne.mpr c14
     have c14b1:(t388.toList != ([52]:List UInt8)) = true:=bne_iff_ne.mpr c14
     exact absurd (Option.some.inj H) (by rw [HRT.out];decide)
   ·rw [if_neg c13] at H
    have c13b0:(t386.toList == ([49]:List UInt8)) = false:=beq_eq_false_iff_ne.mpr c13
    have c13b1:(t386.toList != ([49]:List UInt8)) = true:=bne_iff_ne.mpr c13
    exact absurd (Option.some.inj H) (by rw [HRT.out];decide)
  ·rw [if_neg c12] at H
   have c12b0:(t385.toList == ([45,52]:List UInt8)) = false:=beq_eq_false_iff_ne.mpr c12
   have c12b1:(t385.toList != ([45,52]:List UInt8)) = true:=bne_iff_ne.mpr c12
   exact absurd (Option.some.inj H) (by rw [HRT.out];decide)
 ·rw [if_neg c11] at H
  have c11b0:((wrap64 ((wrap64 ((wrap64 ((wrap64 ((wrap64 ((wrap64 ((wrap64 ((wrap64 ((wrap64 (t387 + t390)) + t394)) + t396)) + t398)) + t400)) + t402)) + t404)) + t406)) + t408)) == 0) = false:=beq_eq_false_iff_ne.mpr c11
  have c11b1:((wrap64 ((wrap64 ((wrap64 ((wrap64 ((wrap64 ((wrap64 ((wrap64 ((wrap64 ((wrap64 (t387 + t390)) + t394)) + t396)) + t398)) + t400)) + t402)) + t404)) + t406)) + t408)) != 0) = true:=bne_iff_ne.mpr c11
  exact absurd (Option.some.inj H) (by rw [HRT.out];decide)
end Go.Proofs.YtaknchlegjcdhaaGreatDoor.Pr
namespace Go.Proofs.YtaknchlegjcdhaaGreatDoor.Pr
open Go.RowKit Go.Proofs.YtaknchlegjcdhaaGreatDoorW.PrintWords Go.Proofs.YtaknchlegjcdhaaGreatDoorW.PrintLast Go.Proofs.YtaknchlegjcdhaaGreatDoorW.PrintMore
attribute [local go_sem] max2_int min2_int max_two min_two max_three min_three max_four min_four
set_option maxHeartbeats 8000000
set_option maxRecDepth 100000
set_option linter.unusedVariables false
set_option linter.unusedSimpArgs false
def garboardref02_Valid.j0:Nat→ByteArray→Bool→Option (Bool)
 | 0,_,_=>none
 | k + 1,x0,x10=>if x10 = true then (if x0.toList = ([45,48]:List UInt8) then (some false) else (if 1≤(x0.size:Int) then ((garboardref01_Valid.f k (x0.extract 1 x0.size)).bind fun t414=>(some t414)) else (none))) else ((garboardref01_Valid.f k x0).bind fun t415=>(some t415))
def garboardref02_Valid.f (k:Nat) (a0:ByteArray):Option (Bool):=if (a0.size:Int) > 1 then (if 0 < (a0.size:Int) then (garboardref02_Valid.j0 k a0 ((bt a0 0) == 45)) else (none)) else (garboardref02_Valid.j0 k a0 false)
theorem garboardref02_Valid.calls (k:Nat) (a0:ByteArray) (r:Bool) (w:World) (h:garboardref02_Valid.f k a0 = some r) :
  Calls Tryz.prog 19 #[.string a0] w fun e w'=>e = .returned (.bool r)∧Drawn0 w w':=by
 have H:(if (a0.size:Int) > 1 then (if 0 < (a0.size:Int) then (garboardref02_Valid.j0 k a0 ((bt a0 0) == 45)) else (none)) else (garboardref02_Valid.j0 k a0 false)) = some r:=h
 clear h
 have HC2:=Aside0.mk H
 clear H
 go_enter Tryz.func19,Tryz.ntmps19
 go_upto_region 1 with (fail)
 go_cut [10] (fun v10 wc=>∃ (kq:Nat) (x10_1:Bool),v10 = .bool x10_1∧Aside0 (garboardref02_Valid.j0 kq a0 x10_1 = some r)∧Aside0 (kq≤k)∧Drawn0 w wc)
 case first =>
  have H:=HC2.out
  clear HC2
  by_cases c3:(a0.size:Int) > 1
  ·rw [if_pos c3] at H
   have c3b0:decide (1 < (a0.size:Int)) = true:=decide_eq_true c3
   have c3b1:decide (1 < a0.size) = true:=decide_eq_true (by omega)
   clear c3
   (first|rw [c3b0]|(simp only [i64_w,i32_w];rw [c3b0])|skip)
   by_cases c4:0 < (a0.size:Int)
   ·rw [if_pos c4] at H
    have c4b0:decide (0 < (a0.size:Int)) = true:=decide_eq_true c4
    have c4b1:decide (0 < a0.size) = true:=decide_eq_true (by omega)
    clear c4
    have H':=Aside0.mk H
    clear H
    have p5:0≤(0:Int):=(by omega)
    have q5:0 < a0.size:=(by have:(0:Int) < (a0.size:Int):=da_;omega)
    have hx5:∀ h:0 < a0.size,((a0[0]'h).toNat:Int) = bt a0 0:=bt_at a0 0
    clear p5
    have qi5:(0 < (a0.size:Int)) = True:=eq_true (of_decide_eq_true (by first|(with_reducible assumption)|assumption))
    replace q5:=eq_true q5
    go_wp2
    go_meet
    case rel=>exact ⟨_,(((bt a0 0) == 45)),(by first|rfl|(simp;done)|(simp [*];done)),H',⟨by first|omega|exact Nat.le_refl _⟩,by repeat (first|exact Drawn0.refl _|apply Drawn0.step)⟩
   ·rw [if_neg c4] at H
    exact absurd H sm_
  ·rw [if_neg c3] at H
   have c3b0:decide (1 < (a0.size:Int)) = false:=decide_eq_false c3
   have c3b1:decide (1 < a0.size) = false:=decide_eq_false (by omega)
   clear c3
   (first|rw [c3b0]|(simp only [i64_w,i32_w];rw [c3b0])|skip)
   have H':=Aside0.mk H
   clear H
   go_wp2
   go_meet
   case rel=>exact ⟨_,(false),(by first|rfl|(simp;done)|(simp [*];done)),H',⟨by first|omega|exact Nat.le_refl _⟩,by repeat (first|exact Drawn0.refl _|apply Drawn0.step)⟩
 case rest =>
  clear HC2
  try clear c1
  try clear p2
  try clear c3
  try clear c3b0
  try clear c3b1
  try clear c4
  try clear c4b0
  try clear c4b1
  try clear p5
  try clear q5
  try clear hx5
  try clear qi5
  try clear p5
  try clear q5
  obtain ⟨kq,x10_1,rfl,HA,HJ1,⟨mc1,rfl⟩⟩:=hcut
  cases kq with
  | zero=>exact absurd HA.out (by simp [garboardref02_Valid.j0])
  | succ kj1 =>
   have H:=HA.out
   clear HA
   simp only [garboardref02_Valid.j0] at H
   by_cases c6:x10_1 = true
   ·subst c6
    have H1:(if a0.toList = ([45,48]:List UInt8) then (some false) else (if 1≤(a0.size:Int) then ((garboardref01_Valid.f kj1 (a0.extract 1 a0.size)).bind fun t414=>(some t414)) else (none))) = some r:=by rw [if_pos rfl] at H;exact H
    clear H
    have H:=H1
    clear H1
    by_cases c7:a0.toList = ([45,48]:List UInt8)
    ·rw [if_pos c7] at H
     have c7b0:(a0.toList == ([45,48]:List UInt8)) = true:=beq_iff_eq.mpr c7
     have c7b1:(a0.toList != ([45,48]:List UInt8)) = false:=bne_eq_false_iff_eq.mpr c7
     clear c7
     obtain rfl:=Option.some.inj H
     go_wp2
     go_ret
     exact ⟨by first|rfl|(simp;done)|(simp [*];done),by repeat (first|exact Drawn0.refl _|apply Drawn0.step)⟩
    ·rw [if_neg c7] at H
     have c7b0:(a0.toList == ([45,48]:List UInt8)) = false:=beq_eq_false_iff_ne.mpr c7
     have c7b1:(a0.toList != ([45,48]:List UInt8)) = true:=bne_iff_ne.mpr c7
     by_cases c8:1≤(a0.size:Int)
     ·rw [if_pos c8] at H
      have c8b0:=eq_true c8
      have c8b1:decide (1≤(a0.size:Int)) = true:=decide_eq_true c8
      clear c8
      obtain ⟨t414,A9,H⟩:=bn_ H
      obtain rfl:=Option.some.inj H
      go_wp2_with (first|(go_at_call 49;(with_reducible refine (garboardref01_Valid.calls kj1 (a0.extract 1 a0.size) t414 _ A9.out).mono ?_);rintro e w' ⟨rfl,⟨nd,rfl⟩⟩))
      go_ret
      exact ⟨by first|rfl|(simp;done)|(simp [*];done),by repeat (first|exact Drawn0.refl _|apply Drawn0.step)⟩
     ·rw [if_neg c8] at H
      exact absurd H sm_
   ·replace c6:=Bool.eq_false_iff.mpr c6
    subst c6
    have H1:((garboardref01_Valid.f kj1 a0).bind fun t415=>(some t415)) = some r:=by rw [if_neg (show ¬ (false = true) by decide)] at H;exact H
    clear H
    have H:=H1
    clear H1
    obtain ⟨t415,A10,H⟩:=bn_ H
    obtain rfl:=Option.some.inj H
    go_wp2_with (first|((with_reducible refine gate_callee (f:=49) rfl ?_);refine gm_ (some 19) Tryz.func49 #[.string a0] ?_;(with_reducible refine (garboardref01_Valid.calls kj1 a0 t415 _ A10.out).mono ?_);rintro e w' ⟨rfl,⟨nd,rfl⟩⟩;refine ⟨_,rfl,?_⟩))
    go_ret
    exact ⟨by first|rfl|(simp;done)|(simp [*];done),by repeat (first|exact Drawn0.refl _|apply Drawn0.step)⟩
end Go.Proofs.YtaknchlegjcdhaaGreatDoor.Pr
namespace Go.Proofs.YtaknchlegjcdhaaGreatDoor.Pr
open Go.RowKit Go.Proofs.YtaknchlegjcdhaaGreatDoorW.PrintWords Go.Proofs.YtaknchlegjcdhaaGreatDoorW.PrintLast Go.Proofs.YtaknchlegjcdhaaGreatDoorW.PrintMore
attribute [local go_sem] max2_int min2_int max_two min_two max_three min_three max_four min_four
set_option maxHeartbeats 8000000
set_option maxRecDepth 100000
set_option linter.unusedVariables false
set_option linter.unusedSimpArgs false
def garboardref02_Signum.f (a0_0:Bool) (l0_1:List Int):Option (Int):=if a0_0 = true then (some (-1)) else (if (l0_1.length:Int) > 0 then (some 1) else (some 0))
theorem garboardref02_Signum.calls (a0_0:Bool) (A0_1:Option Addr) (c0_1:Nat) (l0_1:List Int) (r:Int) (w:World) (hr0_1:Kd.C (Kd.int .u32) w A0_1 l0_1.length l0_1) (hc0_1:l0_1.length≤c0_1) (h:garboardref02_Signum.f a0_0 l0_1 = some r) :
  Calls Tryz.prog 41 #[.agg #[.bool a0_0,.slice A0_1 l0_1.length c0_1]] w fun e w'=>e = .returned (.int .i64 r)∧Below w.heap.size w w':=by
 have hu51:=Tryz.underlying51
 have HR0_1:=Aside0.mk hr0_1
 have HC0_1:=Aside0.mk hc0_1
 clear hr0_1 hc0_1
 have HB:=Aside0.mk (Below.refl w.heap.size w)
 have H:(if a0_0 = true then (some (-1)) else (if (l0_1.length:Int) > 0 then (some 1) else (some 0))) = some r:=h
 clear h
 by_cases c2:a0_0 = true
 ·subst c2
  have H1:(some (-1)) = some r:=by rw [if_pos rfl] at H;exact H
  clear H
  have H:=H1
  clear H1
  obtain rfl:=Option.some.inj H
  go_enter Tryz.func41,Tryz.ntmps41
  go_wp2_with (first|((with_reducible refine gate_dst (N:=1) rfl ?_);refine bv_ #[.bool true,.slice A0_1 l0_1.length c0_1] 51 ?_;clear HB;intro gb416 hg w3 BK416 GE416 hb HB;clear hb hg;obtain ⟨hcz4_0,hcz4_1,hfz4_0,hfz4_1⟩:=c2_ BK416))
  go_ret
  exact ⟨rf_,bx_⟩
 ·replace c2:=Bool.eq_false_iff.mpr c2
  subst c2
  have H1:(if (l0_1.length:Int) > 0 then (some 1) else (some 0)) = some r:=by rw [if_neg (show ¬ (false = true) by decide)] at H;exact H
  clear H
  have H:=H1
  clear H1
  by_cases c5:(l0_1.length:Int) > 0
  ·rw [if_pos c5] at H
   have c5b0:decide (0 < (l0_1.length:Int)) = true:=decide_eq_true c5
   have c5b1:decide (0 < l0_1.length) = true:=decide_eq_true (by omega)
   clear c5
   obtain rfl:=Option.some.inj H
   go_enter Tryz.func41,Tryz.ntmps41
   go_wp2_with (first|((with_reducible refine gate_dst (N:=1) rfl ?_);refine bv_ #[.bool false,.slice A0_1 l0_1.length c0_1] 51 ?_;clear HB;intro gb416 hg w6 BK416 GE416 hb HB;clear hb hg;obtain ⟨hcz7_0,hcz7_1,hfz7_0,hfz7_1⟩:=c2_ BK416))
   go_ret
   exact ⟨rf_,bx_⟩
  ·rw [if_neg c5] at H
   have c5b0:decide (0 < (l0_1.length:Int)) = false:=decide_eq_false c5
   have c5b1:decide (0 < l0_1.length) = false:=decide_eq_false (by omega)
   clear c5
   obtain rfl:=Option.some.inj H
   go_enter Tryz.func41,Tryz.ntmps41
   go_wp2_with (first|((with_reducible refine gate_dst (N:=1) rfl ?_);refine bv_ #[.bool false,.slice A0_1 l0_1.length c0_1] 51 ?_;clear HB;intro gb416 hg w8 BK416 GE416 hb HB;clear hb hg;obtain ⟨hcz9_0,hcz9_1,hfz9_0,hfz9_1⟩:=c2_ BK416))
   go_ret
   exact ⟨rf_,bx_⟩
end Go.Proofs.YtaknchlegjcdhaaGreatDoor.Pr
namespace Go.Proofs.YtaknchlegjcdhaaGreatDoor.Pr
open Go.RowKit Go.Proofs.YtaknchlegjcdhaaGreatDoorW.PrintWords Go.Proofs.YtaknchlegjcdhaaGreatDoorW.PrintLast Go.Proofs.YtaknchlegjcdhaaGreatDoorW.PrintMore
attribute [local go_sem] max2_int min2_int max_two min_two max_three min_three max_four min_four
set_option maxHeartbeats 8000000
set_option maxRecDepth 100000
set_option linter.unusedVariables false
set_option linter.unusedSimpArgs false
def garboardref02_Read.f (k:Nat) (a0:ByteArray):Option (Bool × List Int):=if 0 < (a0.size:Int) then (if (bt a0 0) = 45 then (if 1≤(a0.size:Int) then ((garboardref01_From.f k (a0.extract 1 a0.size)).bind fun t430=>(some (true,t430))) else (none)) else ((garboardref01_From.f k a0).bind fun t433=>(some (false,t433)))) else (none)
theorem garboardref02_Read.calls (k:Nat) (a0:ByteArray) (r1:Bool) (r2:List Int) (w:World) (h:garboardref02_Read.f k a0 = some (r1,r2)) :
  Calls Tryz.prog 42 #[.string a0] w fun e w'=>∃ v1_:Value,e = .returned (.agg #[.bool r1,v1_])∧Kd.V (Kd.int .u32) 95 w' w.heap.size (fun k_=>(w.heap.size≤k_)) v1_ r2∧Below w.heap.size w w':=by
 have hu51:=Tryz.underlying51
 have HB:=Aside0.mk (Below.refl w.heap.size w)
 have H:(if 0 < (a0.size:Int) then (if (bt a0 0) = 45 then (if 1≤(a0.size:Int) then ((garboardref01_From.f k (a0.extract 1 a0.size)).bind fun t430=>(some (true,t430))) else (none)) else ((garboardref01_From.f k a0).bind fun t433=>(some (false,t433)))) else (none)) = some (r1,r2):=h
 clear h
 by_cases c2:0 < (a0.size:Int)
 ·rw [if_pos c2] at H
  have c2b0:decide (0 < (a0.size:Int)) = true:=decide_eq_true c2
  have c2b1:decide (0 < a0.size) = true:=decide_eq_true (by omega)
  clear c2
  by_cases c4:(bt a0 0) = 45
  ·rw [if_pos c4] at H
   have c4b0:((bt a0 0) == 45) = true:=beq_iff_eq.mpr c4
   have c4b1:((bt a0 0) != 45) = false:=bne_eq_false_iff_eq.mpr c4
   clear c4
   by_cases c5:1≤(a0.size:Int)
   ·rw [if_pos c5] at H
    have c5b0:=eq_true c5
    have c5b1:decide (1≤(a0.size:Int)) = true:=decide_eq_true c5
    clear c5
    obtain ⟨t430,A6,H⟩:=bn_ H
    simp only [Option.some.injEq,Prod.mk.injEq] at H
    obtain ⟨rfl,rfl⟩:=H
    go_enter Tryz.func42,Tryz.ntmps42
    go_wp2_with (first|((with_reducible refine gate_dst (N:=2) rfl ?_);refine bv_ #[.bool false,.slice none 0 0] 51 ?_;clear HB;intro gb429 hg w7 BK429 GE429 hb HB;clear hb hg;have p3:0≤(0:Int):=(by omega);have q3:0 < a0.size:=(by have:(0:Int) < (a0.size:Int):=da_;omega);have hx3:∀ h:0 < a0.size,((a0[0]'h).toNat:Int) = bt a0 0:=bt_at a0 0;clear p3;have qi3:(0 < (a0.size:Int)) = True:=eq_true (of_decide_eq_true (by first|(with_reducible assumption)|assumption));replace q3:=eq_true q3)|((with_reducible refine gate_callee (f:=71) rfl ?_);refine gm_ (some 8) Tryz.func71 #[.string (a0.extract 1 a0.size)] ?_;(with_reducible refine (garboardref01_From.calls k (a0.extract 1 a0.size) t430 _ A6.out).mono ?_);rintro e w8 ⟨v431,rfl,ho0,hb⟩;refine ⟨_,rfl,?_⟩;have HO432:=Aside0.mk (Kd.V_lower (Kd.V_mono (ok':=fun k_=>(w.heap.size≤k_)∧k_≠gb429) ho0 (fun k_ hk_=>⟨(Nat.le_trans (below_size bx_) hk_),(Kd.freshB (g:=gb429) (o:=.cells #[.bool false,.slice none 0 0] 51 (0,0)) bk_ k_ hk_)⟩)) (below_size bx_));replace BK429:=bb_ BK429 hb;replace HB:=bs_ hb;(try clear hb);(try clear ho0);obtain ⟨Ao9,co9,eo9⟩:=Kd.V_slice HO432.out;subst eo9;obtain ⟨hcz10_0,hcz10_1,hfz10_0,hfz10_1⟩:=c2_ BK429))
    refine bodyPost_ret (results_cell_row rfl _ _ gb429 51 #[.bool true,.slice Ao9 t430.length co9] (0,0) _ rfl bk_ Tryz.underlying51 rfl kr_) rfl ?_
    exact ⟨_,rf_,by (with_reducible repeat (first|apply Kd.V_alloc|apply Kd.V_drewN|apply Kd.V_drew));exact Kd.V_mono (Kd.V_far (p:=⟨gb429,1,none⟩) (Kd.V_far (p:=⟨gb429,0,none⟩) (Kd.V_mono HO432.out (fun k_ hk=>(⟨hk,hk.2⟩:_∧k_≠gb429))) (fun _ hk=>hk.2) (.bool true)) (fun _ hk=>hk.2) (.slice Ao9 t430.length co9)) (fun _ hk=>hk.1.1),bx_⟩
   ·rw [if_neg c5] at H
    exact absurd H sm_
  ·rw [if_neg c4] at H
   have c4b0:((bt a0 0) == 45) = false:=beq_eq_false_iff_ne.mpr c4
   have c4b1:((bt a0 0) != 45) = true:=bne_iff_ne.mpr c4
   obtain ⟨t433,A11,H⟩:=bn_ H
   simp only [Option.some.injEq,Prod.mk.injEq] at H
   obtain ⟨rfl,rfl⟩:=H
   go_enter Tryz.func42,Tryz.ntmps42
   go_wp2_with (first|((with_reducible refine gate_dst (N:=2) rfl ?_);refine bv_ #[.bool false,.slice none 0 0] 51 ?_;clear HB;intro gb429 hg w12 BK429 GE429 hb HB;clear hb hg;have p3:0≤(0:Int):=(by omega);have q3:0 < a0.size:=(by have:(0:Int) < (a0.size:Int):=da_;omega);have hx3:∀ h:0 < a0.size,((a0[0]'h).toNat:Int) = bt a0 0:=bt_at a0 0;clear p3;have qi3:(0 < (a0.size:Int)) = True:=eq_true (of_decide_eq_true (by first|(with_reducible assumption)|assumption));replace q3:=eq_true q3)|((with_reducible refine gate_callee (f:=71) rfl ?_);refine gm_ (some 11) Tryz.func71 #[.string a0] ?_;(with_reducible refine (garboardref01_From.calls k a0 t433 _ A11.out).mono ?_);rintro e w13 ⟨v434,rfl,ho0,hb⟩;refine ⟨_,rfl,?_⟩;have HO435:=Aside0.mk (Kd.V_lower (Kd.V_mono (ok':=fun k_=>(w.heap.size≤k_)∧k_≠gb429) ho0 (fun k_ hk_=>⟨(Nat.le_trans (below_size bx_) hk_),(Kd.freshB (g:=gb429) (o:=.cells #[.bool false,.slice none 0 0] 51 (0,0)) bk_ k_ hk_)⟩)) (below_size bx_));replace BK429:=bb_ BK429 hb;replace HB:=bs_ hb;(try clear hb);(try clear ho0);obtain ⟨Ao14,co14,eo14⟩:=Kd.V_slice HO435.out;subst eo14;obtain ⟨hcz15_0,hcz15_1,hfz15_0,hfz15_1⟩:=c2_ BK429))
   refine bodyPost_ret (results_cell_row rfl _ _ gb429 51 #[.bool false,.slice Ao14 t433.length co14] (0,0) _ rfl bk_ Tryz.underlying51 rfl kr_) rfl ?_
   exact ⟨_,rf_,by (with_reducible repeat (first|apply Kd.V_alloc|apply Kd.V_drewN|apply Kd.V_drew));exact Kd.V_mono (Kd.V_far (p:=⟨gb429,1,none⟩) (Kd.V_far (p:=⟨gb429,0,none⟩) (Kd.V_mono HO435.out (fun k_ hk=>(⟨hk,hk.2⟩:_∧k_≠gb429))) (fun _ hk=>hk.2) (.bool false)) (fun _ hk=>hk.2) (.slice Ao14 t433.length co14)) (fun _ hk=>hk.1.1),bx_⟩
 ·rw [if_neg c2] at H
  exact absurd H sm_
end Go.Proofs.YtaknchlegjcdhaaGreatDoor.Pr
namespace Go.Proofs.YtaknchlegjcdhaaGreatDoor.Pr
open Go.RowKit Go.Proofs.YtaknchlegjcdhaaGreatDoorW.PrintWords Go.Proofs.YtaknchlegjcdhaaGreatDoorW.PrintLast Go.Proofs.YtaknchlegjcdhaaGreatDoorW.PrintMore
attribute [local go_sem] max2_int min2_int max_two min_two max_three min_three max_four min_four
set_option maxHeartbeats 8000000
set_option maxRecDepth 100000
set_option linter.unusedVariables false
set_option linter.unusedSimpArgs false
def garboardref02_To.f (k:Nat) (a0_0:Bool) (l0_1:List Int):Option (ByteArray):=if a0_0 = true then ((garboardref01_To.f k l0_1).bind fun t454=>(if 1 + t454.size≤9223372036854775807 then (some ((⟨#[45]⟩:ByteArray) ++ t454)) else (none))) else ((garboardref01_To.f k l0_1).bind fun t455=>(some t455))
theorem garboardref02_To.calls (k:Nat) (a0_0:Bool) (A0_1:Option Addr) (c0_1:Nat) (l0_1:List Int) (r:ByteArray) (w:World) (hr0_1:Kd.C (Kd.int .u32) w A0_1 l0_1.length l0_1) (hc0_1:l0_1.length≤c0_1) (h:garboardref02_To.f k a0_0 l0_1 = some r) :
  Calls Tryz.prog 43 #[.agg #[.bool a0_0,.slice A0_1 l0_1.length c0_1]] w fun e w'=>e = .returned (.string r)∧Below w.heap.size w w':=by
 have hu51:=Tryz.underlying51
 have HR0_1:=Aside0.mk hr0_1
 have HC0_1:=Aside0.mk hc0_1
 clear hr0_1 hc0_1
 have HB:=Aside0.mk (Below.refl w.heap.size w)
 have H:(if a0_0 = true then ((garboardref01_To.f k l0_1).bind fun t454=>(if 1 + t454.size≤9223372036854775807 then (some ((⟨#[45]⟩:ByteArray) ++ t454)) else (none))) else ((garboardref01_To.f k l0_1).bind fun t455=>(some t455))) = some r:=h
 clear h
 by_cases c2:a0_0 = true
 ·subst c2
  have H1:((garboardref01_To.f k l0_1).bind fun t454=>(if 1 + t454.size≤9223372036854775807 then (some ((⟨#[45]⟩:ByteArray) ++ t454)) else (none))) = some r:=by rw [if_pos rfl] at H;exact H
  clear H
  have H:=H1
  clear H1
  obtain ⟨t454,A3,H⟩:=bn_ H
  by_cases c4:1 + t454.size≤9223372036854775807
  ·rw [if_pos c4] at H
   have c4b0:=eq_true c4
   have c4b1:decide (1 + t454.size≤9223372036854775807) = true:=decide_eq_true c4
   try have c4b2:(9223372036854775807 < 1 + t454.size) = False:=eq_false (Nat.not_lt.2 c4)
   obtain rfl:=Option.some.inj H
   go_enter Tryz.func43,Tryz.ntmps43
   go_wp2_with (first|((with_reducible refine gate_dst (N:=1) rfl ?_);refine bv_ #[.bool true,.slice A0_1 l0_1.length c0_1] 51 ?_;clear HB;intro gb453 hg w5 BK453 GE453 hb HB;clear hb hg;obtain ⟨hcz6_0,hcz6_1,hfz6_0,hfz6_1⟩:=c2_ BK453)|((with_reducible refine gate_callee (f:=72) rfl ?_);refine gm_ (some 7) Tryz.func72 #[.slice A0_1 l0_1.length c0_1] ?_;(with_reducible refine (garboardref01_To.calls k _ _ l0_1 t454 _ ?side1 ?side2 A3.out).mono ?_);(case side1=>exact cx_ (Kd.C_below HR0_1.out HB.out));(case side2=>exact HC0_1.out);rintro e w7 ⟨rfl,hb⟩;refine ⟨_,rfl,?_⟩;replace BK453:=bb_ BK453 hb;replace HB:=bs_ hb;(try clear hb)))
   go_ret
   exact ⟨rf_,bx_⟩
  ·rw [if_neg c4] at H
   exact absurd H sm_
 ·replace c2:=Bool.eq_false_iff.mpr c2
  subst c2
  have H1:((garboardref01_To.f k l0_1).bind fun t455=>(some t455)) = some r:=by rw [if_neg (show ¬ (false = true) by decide)] at H;exact H
  clear H
  have H:=H1
  clear H1
  obtain ⟨t455,A8,H⟩:=bn_ H
  obtain rfl:=Option.some.inj H
  go_enter Tryz.func43,Tryz.ntmps43
  go_wp2_with (first|((with_reducible refine gate_dst (N:=1) rfl ?_);refine bv_ #[.bool false,.slice A0_1 l0_1.length c0_1] 51 ?_;clear HB;intro gb453 hg w9 BK453 GE453 hb HB;clear hb hg;obtain ⟨hcz10_0,hcz10_1,hfz10_0,hfz10_1⟩:=c2_ BK453)|((with_reducible refine gate_callee (f:=72) rfl ?_);refine gm_ (some 11) Tryz.func72 #[.slice A0_1 l0_1.length c0_1] ?_;(with_reducible refine (garboardref01_To.calls k _ _ l0_1 t455 _ ?side1 ?side2 A8.out).mono ?_);(case side1=>exact cx_ (Kd.C_below HR0_1.out HB.out));(case side2=>exact HC0_1.out);rintro e w11 ⟨rfl,hb⟩;refine ⟨_,rfl,?_⟩;replace BK453:=bb_ BK453 hb;replace HB:=bs_ hb;(try clear hb)))
  go_ret
  exact ⟨rf_,bx_⟩
end Go.Proofs.YtaknchlegjcdhaaGreatDoor.Pr
namespace Go.Proofs.YtaknchlegjcdhaaGreatDoor.Pr
open Go.RowKit Go.Proofs.YtaknchlegjcdhaaGreatDoorW.PrintWords Go.Proofs.YtaknchlegjcdhaaGreatDoorW.PrintLast Go.Proofs.YtaknchlegjcdhaaGreatDoorW.PrintMore
attribute [local go_sem] max2_int min2_int max_two min_two max_three min_three max_four min_four
set_option maxHeartbeats 8000000
set_option maxRecDepth 100000
set_option linter.unusedVariables false
set_option linter.unusedSimpArgs false
def garboardref02_Make.f (a0:Bool) (l1:List Int):Option (Bool × List Int):=if a0 = true then (some (decide ((l1.length:Int) > 0),l1)) else (some (false,l1))
theorem garboardref02_Make.calls (a0:Bool) (P1_:Nat→Prop) (A1:Option Addr) (c1:Nat) (l1:List Int) (r1:Bool) (r2:List Int) (w:World) (hs1:Kd.V (Kd.int .u32) 95 w w.heap.size (fun k_=>P1_ k_) (.slice A1 l1.length c1) l1) (h:garboardref02_Make.f a0 l1 = some (r1,r2)) :
  Calls Tryz.prog 44 #[.bool a0,.slice A1 l1.length c1] w fun e w'=>∃ v1_:Value,e = .returned (.agg #[.bool r1,v1_])∧Kd.V (Kd.int .u32) 95 w' w.heap.size (fun k_=>(P1_ k_ ∨ w.heap.size≤k_)) v1_ r2∧Below w.heap.size w w':=by
 have hu51:=Tryz.underlying51
 have HO1:=Aside0.mk (show Kd.V (Kd.int .u32) 95 w w.heap.size (fun k_=>(P1_ k_ ∨ w.heap.size≤k_)) (.slice A1 l1.length c1) l1 from Kd.V_mono hs1 (fun k_ hk=>.inl hk))
 have HB:=Aside0.mk (Below.refl w.heap.size w)
 have H:(if a0 = true then (some (decide ((l1.length:Int) > 0),l1)) else (some (false,l1))) = some (r1,r2):=h
 clear h
 by_cases c3:a0 = true
 ·subst c3
  have H1:(some (decide ((l1.length:Int) > 0),l1)) = some (r1,r2):=by rw [if_pos rfl] at H;exact H
  clear H
  have H:=H1
  clear H1
  simp only [Option.some.injEq,Prod.mk.injEq] at H
  obtain ⟨rfl,rfl⟩:=H
  go_enter Tryz.func44,Tryz.ntmps44
  go_wp2_with (first|((with_reducible refine gate_dst (N:=4) rfl ?_);(try (refine gate_guard (by rfl) ?_;dsimp only));refine bv_ #[.bool false,.slice none 0 0] 51 ?_;clear HB;intro gb456 hg w4 BK456 GE456 hb HB;replace HO1:=Aside0.mk (Kd.V_below (Kd.V_elderB (by (with_reducible repeat (first|apply Kd.V_alloc|apply Kd.V_drewN|apply Kd.V_drew));exact HO1.out) gb456 (Nat.le_of_eq hg.symm)) hb);clear hb hg;obtain ⟨hcz5_0,hcz5_1,hfz5_0,hfz5_1⟩:=c2_ BK456))
  refine bodyPost_ret (results_cell_row rfl _ _ gb456 51 #[.bool (decide (0 < l1.length)),.slice A1 l1.length c1] (0,0) _ rfl bk_ Tryz.underlying51 rfl kr_) rfl ?_
  exact ⟨_,rf_,by (with_reducible repeat (first|apply Kd.V_alloc|apply Kd.V_drewN|apply Kd.V_drew));exact Kd.V_mono (Kd.V_far (p:=⟨gb456,1,none⟩) (Kd.V_far (p:=⟨gb456,0,none⟩) (Kd.V_mono HO1.out (fun k_ hk=>(⟨hk,hk.2⟩:_∧k_≠gb456))) (fun _ hk=>hk.2) (.bool (decide (0 < l1.length)))) (fun _ hk=>hk.2) (.slice A1 l1.length c1)) (fun _ hk=>hk.1.1),bx_⟩
 ·replace c3:=Bool.eq_false_iff.mpr c3
  subst c3
  have H1:(some (false,l1)) = some (r1,r2):=by rw [if_neg (show ¬ (false = true) by decide)] at H;exact H
  clear H
  have H:=H1
  clear H1
  simp only [Option.some.injEq,Prod.mk.injEq] at H
  obtain ⟨rfl,rfl⟩:=H
  go_enter Tryz.func44,Tryz.ntmps44
  go_wp2_with (first|((with_reducible refine gate_dst (N:=4) rfl ?_);(try (refine gate_guard (by rfl) ?_;dsimp only));refine bv_ #[.bool false,.slice none 0 0] 51 ?_;clear HB;intro gb456 hg w6 BK456 GE456 hb HB;replace HO1:=Aside0.mk (Kd.V_below (Kd.V_elderB (by (with_reducible repeat (first|apply Kd.V_alloc|apply Kd.V_drewN|apply Kd.V_drew));exact HO1.out) gb456 (Nat.le_of_eq hg.symm)) hb);clear hb hg;obtain ⟨hcz7_0,hcz7_1,hfz7_0,hfz7_1⟩:=c2_ BK456))
  refine bodyPost_ret (results_cell_row rfl _ _ gb456 51 #[.bool false,.slice A1 l1.length c1] (0,0) _ rfl bk_ Tryz.underlying51 rfl kr_) rfl ?_
  exact ⟨_,rf_,by (with_reducible repeat (first|apply Kd.V_alloc|apply Kd.V_drewN|apply Kd.V_drew));exact Kd.V_mono (Kd.V_far (p:=⟨gb456,1,none⟩) (Kd.V_far (p:=⟨gb456,0,none⟩) (Kd.V_mono HO1.out (fun k_ hk=>(⟨hk,hk.2⟩:_∧k_≠gb456))) (fun _ hk=>hk.2) (.bool false)) (fun _ hk=>hk.2) (.slice A1 l1.length c1)) (fun _ hk=>hk.1.1),bx_⟩
end Go.Proofs.YtaknchlegjcdhaaGreatDoor.Pr
namespace Go.Proofs.YtaknchlegjcdhaaGreatDoor.Pr
open Go.RowKit Go.Proofs.YtaknchlegjcdhaaGreatDoorW.PrintWords Go.Proofs.YtaknchlegjcdhaaGreatDoorW.PrintLast Go.Proofs.YtaknchlegjcdhaaGreatDoorW.PrintMore
attribute [local go_sem] max2_int min2_int max_two min_two max_three min_three max_four min_four
set_option maxHeartbeats 8000000
set_option maxRecDepth 100000
set_option linter.unusedVariables false
set_option linter.unusedSimpArgs false
def garboardref02_Opposite.f (a0_0:Bool) (l0_1:List Int):Option (Bool × List Int):=(garboardref02_Make.f (!a0_0) l0_1).bind fun bt469=>(some (bt469.1,bt469.2))
theorem garboardref02_Opposite.calls (a0_0:Bool) (P0_1_:Nat→Prop) (A0_1:Option Addr) (c0_1:Nat) (l0_1:List Int) (r1:Bool) (r2:List Int) (w:World) (hs0_1:Kd.V (Kd.int .u32) 95 w w.heap.size (fun k_=>P0_1_ k_) (.slice A0_1 l0_1.length c0_1) l0_1) (h:garboardref02_Opposite.f a0_0 l0_1 = some (r1,r2)) :
  Calls Tryz.prog 47 #[.agg #[.bool a0_0,.slice A0_1 l0_1.length c0_1]] w fun e w'=>∃ v1_:Value,e = .returned (.agg #[.bool r1,v1_])∧Kd.V (Kd.int .u32) 95 w' w.heap.size (fun k_=>(P0_1_ k_ ∨ w.heap.size≤k_)) v1_ r2∧Below w.heap.size w w':=by
 have hu51:=Tryz.underlying51
 have HO0_1:=Aside0.mk (show Kd.V (Kd.int .u32) 95 w w.heap.size (fun k_=>(P0_1_ k_ ∨ w.heap.size≤k_)) (.slice A0_1 l0_1.length c0_1) l0_1 from Kd.V_mono hs0_1 (fun k_ hk=>.inl hk))
 have HB:=Aside0.mk (Below.refl w.heap.size w)
 have H:((garboardref02_Make.f (!a0_0) l0_1).bind fun bt469=>(some (bt469.1,bt469.2))) = some (r1,r2):=h
 clear h
 obtain ⟨⟨t469,t470⟩,A2,H⟩:=bn_ H
 dsimp only at H
 simp only [Option.some.injEq,Prod.mk.injEq] at H
 obtain ⟨rfl,rfl⟩:=H
 go_enter Tryz.func47,Tryz.ntmps47
 go_wp2_with (first|((with_reducible refine gate_dst (N:=1) rfl ?_);refine bv_ #[.bool a0_0,.slice A0_1 l0_1.length c0_1] 51 ?_;clear HB;intro gb467 hg w3 BK467 GE467 hb HB;replace HO0_1:=Aside0.mk (Kd.V_below (Kd.V_elderB (by (with_reducible repeat (first|apply Kd.V_alloc|apply Kd.V_drewN|apply Kd.V_drew));exact HO0_1.out) gb467 (Nat.le_of_eq hg.symm)) hb);clear hb hg)|((with_reducible refine gate_dst (N:=2) rfl ?_);refine bv_ #[.bool false,.slice none 0 0] 51 ?_;clear HB;intro gb468 hg w4 BK468 GE468 hb HB;have x_:=ol_ BK467 hg hb;clear BK467;obtain ⟨BK467,NB467_468,NB468_467⟩:=x_;replace HO0_1:=Aside0.mk (Kd.V_below (Kd.V_elderB (by (with_reducible repeat (first|apply Kd.V_alloc|apply Kd.V_drewN|apply Kd.V_drew));exact HO0_1.out) gb468 (Nat.le_of_eq hg.symm)) hb);clear hb hg;have hnb5:=NB467_468.out;have hnc5:=NB468_467.out;obtain ⟨hcz6_0,hcz6_1,hfz6_0,hfz6_1⟩:=c2_ BK467)|((with_reducible refine gate_callee (f:=44) rfl ?_);refine gm_ (some 8) Tryz.func44 #[.bool (!a0_0),.slice A0_1 l0_1.length c0_1] ?_;(with_reducible refine (garboardref02_Make.calls (!a0_0) (fun k_=>(((P0_1_ k_ ∨ w.heap.size≤k_)∧k_≠gb467)∧k_≠gb468)) _ _ l0_1 t469 t470 _ ?side1 A2.out).mono ?_);(case side1=>exact HO0_1.out);rintro e w7 ⟨v471,rfl,ho0,hb⟩;refine ⟨_,rfl,?_⟩;have HO472:=Aside0.mk (Kd.V_lower (Kd.V_mono (ok':=fun k_=>(P0_1_ k_ ∨ w.heap.size≤k_)∧k_≠gb467∧k_≠gb468) ho0 (fun k_ hk_=>⟨Or.elim hk_ (fun hs_=>hs_.1.1) (fun hn_=>(.inr (Nat.le_trans (below_size bx_) hn_))),Or.elim hk_ (fun hs_=>hs_.1.2) (fun hn_=>(Kd.freshB (g:=gb467) (o:=.cells #[.bool a0_0,.slice A0_1 l0_1.length c0_1] 51 (0,0)) bk_ k_ hn_)),Or.elim hk_ (fun hs_=>hs_.2) (fun hn_=>(Kd.freshB (g:=gb468) (o:=.cells #[.bool false,.slice none 0 0] 51 (0,0)) bk_ k_ hn_))⟩)) (below_size bx_));replace HO0_1:=vb_ HO0_1 hb;replace BK467:=bb_ BK467 hb;replace BK468:=bb_ BK468 hb;replace HB:=bs_ hb;(try clear hb);(try clear ho0);obtain ⟨hcz8_0,hcz8_1,hfz8_0,hfz8_1⟩:=c2_ BK468;obtain ⟨Ao9,co9,eo9⟩:=Kd.V_slice HO472.out;subst eo9))
 refine bodyPost_ret (results_cell_row rfl _ _ gb468 51 #[.bool t469,.slice Ao9 t470.length co9] (0,0) _ rfl bk_ Tryz.underlying51 rfl kr_) rfl ?_
 exact ⟨_,rf_,by (with_reducible repeat (first|apply Kd.V_alloc|apply Kd.V_drewN|apply Kd.V_drew));exact Kd.V_mono (Kd.V_far (p:=⟨gb468,1,none⟩) (Kd.V_far (p:=⟨gb468,0,none⟩) (Kd.V_mono HO472.out (fun k_ hk=>(⟨hk,hk.2.2⟩:_∧k_≠gb468))) (fun _ hk=>hk.2) (.bool t469)) (fun _ hk=>hk.2) (.slice Ao9 t470.length co9)) (fun _ hk=>hk.1.1),bx_⟩
end Go.Proofs.YtaknchlegjcdhaaGreatDoor.Pr
namespace Go.Proofs.YtaknchlegjcdhaaGreatDoor.Pr
open Go.RowKit Go.Proofs.YtaknchlegjcdhaaGreatDoorW.PrintWords Go.Proofs.YtaknchlegjcdhaaGreatDoorW.PrintLast Go.Proofs.YtaknchlegjcdhaaGreatDoorW.PrintMore
attribute [local go_sem] max2_int min2_int max_two min_two max_three min_three max_four min_four
set_option maxHeartbeats 8000000
set_option maxRecDepth 100000
set_option linter.unusedVariables false
set_option linter.unusedSimpArgs false
def garboardref02_both.j0:Nat→ByteArray→ByteArray→Bool→Option (Bool × List Int × Bool × List Int × Int)
 | 0,_,_,_=>none
 | k + 1,x0,x1,x14=>if x14 = true then (some (false,([]:List Int),false,([]:List Int),1)) else ((garboardref02_Read.f k x0).bind fun bt509=>((garboardref02_Read.f k x1).bind fun bt513=>(some (bt509.1,bt509.2,bt513.1,bt513.2,0))))
def garboardref02_both.f (k:Nat) (a0:ByteArray) (a1:ByteArray):Option (Bool × List Int × Bool × List Int × Int):=(garboardref02_Valid.f k a0).bind fun t507=>(if t507 = true then ((garboardref02_Valid.f k a1).bind fun t508=>(garboardref02_both.j0 k a0 a1 (!t508))) else (garboardref02_both.j0 k a0 a1 true))
end Go.Proofs.YtaknchlegjcdhaaGreatDoor.Pr
namespace Go.Proofs.YtaknchlegjcdhaaGreatDoor.Pr
open Go.RowKit Go.Proofs.YtaknchlegjcdhaaGreatDoorW.PrintWords Go.Proofs.YtaknchlegjcdhaaGreatDoorW.PrintLast Go.Proofs.YtaknchlegjcdhaaGreatDoorW.PrintMore
attribute [local go_sem] max2_int min2_int max_two min_two max_three min_three max_four min_four
set_option maxHeartbeats 8000000
set_option maxRecDepth 100000
set_option linter.unusedVariables false
set_option linter.unusedSimpArgs false
def garboardref02_Plus.f (k:Nat) (a0_0:Bool) (l0_1:List Int) (a1_0:Bool) (l1_1:List Int):Option (Bool × List Int):=if (a0_0 == a1_0) = true then ((garboardref01_Plus.f k l0_1 l1_1).bind fun t559=>((garboardref02_Make.f a0_0 t559).bind fun bt562=>(some (bt562.1,bt562.2)))) else ((garboardref01_Cmp.f k l0_1 l1_1).bind fun t566=>(if t566 ≥ 0 then ((garboardref01_Minus.f k l0_1 l1_1).bind fun t567=>((garboardref02_Make.f a0_0 t567).bind fun bt570=>(some (bt570.1,bt570.2)))) else ((garboardref01_Minus.f k l1_1 l0_1).bind fun t574=>((garboardref02_Make.f a1_0 t574).bind fun bt577=>(some (bt577.1,bt577.2))))))
end Go.Proofs.YtaknchlegjcdhaaGreatDoor.Pr
namespace Go.Proofs.YtaknchlegjcdhaaGreatDoor.Pr
open Go.RowKit Go.Proofs.YtaknchlegjcdhaaGreatDoorW.PrintWords Go.Proofs.YtaknchlegjcdhaaGreatDoorW.PrintLast Go.Proofs.YtaknchlegjcdhaaGreatDoorW.PrintMore
attribute [local go_sem] max2_int min2_int max_two min_two max_three min_three max_four min_four
set_option maxHeartbeats 8000000
set_option maxRecDepth 100000
set_option linter.unusedVariables false
set_option linter.unusedSimpArgs false
def garboardref02_Add.f (k:Nat) (a0:ByteArray) (a1:ByteArray):Option (ByteArray × Int):=(garboardref02_both.f k a0 a1).bind fun bt611=>(if bt611.2.2.2.2 = 0 then ((garboardref02_Plus.f k bt611.1 bt611.2.1 bt611.2.2.1 bt611.2.2.2.1).bind fun bt622=>((garboardref02_To.f k bt622.1 bt622.2).bind fun t626=>(some (t626,0)))) else (some ((⟨#[]⟩:ByteArray),bt611.2.2.2.2)))
end Go.Proofs.YtaknchlegjcdhaaGreatDoor.Pr
set_option linter.unusedVariables false
set_option linter.unusedSimpArgs false
namespace Go.Proofs.YtaknchlegjcdhaaGreatDoor.Pr
open Go.RowKit Go.Lib Go.Proofs.YtaknchlegjcdhaaGreatDoorW.PrintWords Go.Proofs.YtaknchlegjcdhaaGreatDoorW.PrintLast Go.Proofs.YtaknchlegjcdhaaGreatDoorW.PrintMore Go.Proofs.YtaknchlegjcdhaaGreatDoor.NatTh
def zr (z:Int):Bool × List Int:=(decide (z < 0),numOf z.natAbs)
theorem zr_fst (z:Int):(zr z).1 = decide (z < 0):=rfl
theorem zr_snd (z:Int):(zr z).2 = numOf z.natAbs:=rfl
theorem Sz.len {e n:Nat} (h:Sz e n):(numOf n).length≤e:=len_le (by
 unfold Sz at h
 have h1:(10:Nat) ^ e≤1000000000 ^ e:=Nat.pow_le_pow_left (by omega) e
 have h2:((1000000000 ^ e:Nat):Int) = (1000000000:Int) ^ e:=by rw [Int.natCast_pow];rfl
 unfold B
 omega)
theorem Zs.len {e:Nat} {z:Int} (h:Zs e z):(numOf z.natAbs).length≤e:=Sz.len h
theorem len_gt (n:Nat):decide (((numOf n).length:Int) > 0) = decide (n≠0):=by
 by_cases h:n = 0
 ·subst h;rw [numOf_zero];rfl
 ·have:=len_pos (a:=n) (by omega)
  rw [decide_eq_true h,decide_eq_true (by omega)]
theorem make_eq (b:Bool) (n:Nat):garboardref02_Make.f b (numOf n) = some (zr (zn b n)):=by
 unfold garboardref02_Make.f zr zn
 cases b with
 | false =>
  rw [if_neg (by simp),if_neg (by simp),decide_eq_false (by omega),Int.natAbs_natCast]
 | true =>
  rw [if_pos rfl,if_pos rfl,len_gt,Int.natAbs_neg,Int.natAbs_natCast]
  by_cases h:n = 0
  ·rw [decide_eq_false (by omega),decide_eq_false (by omega)]
  ·rw [decide_eq_true h,decide_eq_true (by omega)]
theorem zn_not (z:Int):zn (!decide (z < 0)) z.natAbs = -z:=by
 unfold zn
 by_cases hz:z < 0
 ·rw [decide_eq_true hz,if_neg (by simp)];omega
 ·rw [decide_eq_false hz,if_pos (by rfl)];omega
theorem ropp_eq (z:Int):garboardref02_Opposite.f (zr z).1 (zr z).2 = some (zr (-z)):=by
 unfold garboardref02_Opposite.f
 rw [zr_fst,zr_snd,make_eq,Option.bind_some,zn_not]
theorem rsign_eq (z:Int):garboardref02_Signum.f (zr z).1 (zr z).2 = some z.sign:=by
 unfold garboardref02_Signum.f
 rw [zr_fst,zr_snd]
 rcases Int.lt_trichotomy z 0 with h|h|h
 ·rw [if_pos (decide_eq_true h),Int.sign_eq_neg_one_of_neg h]
 ·subst h
  rw [if_neg (by simp),if_neg (by rw [show Int.natAbs 0 = 0 from rfl,numOf_zero];simp)]
  rfl
 ·have:=len_pos (a:=z.natAbs) (by omega)
  rw [if_neg (by simp;omega),if_pos (by omega),Int.sign_eq_one_of_pos h]
theorem rplus_ev {e:Nat} {y z:Int} (hy:Zs e y) (hz:Zs e z) (h2:e≤100000):Ev (fun k=>garboardref02_Plus.f k (zr y).1 (zr y).2 (zr z).1 (zr z).2) (zr (y + z)):=by
 have l1:=hy.len
 have l2:=hz.len
 have o1:Ok (numOf y.natAbs):=by unfold Ok;omega
 have o2:Ok (numOf z.natAbs):=by unfold Ok;omega
 unfold garboardref02_Plus.f
 by_cases h:((zr y).1 == (zr z).1) = true
 ·refine Ev.congr (fun k=>if_pos h) (Ev.bind (Plus_ev _ _ o1 o2 (by omega)) (Ev.congr (fun k=>?_) (Ev.now _)))
  rw [zr_fst,make_eq,Option.bind_some]
  have h3:decide (y < 0) = decide (z < 0):=by simpa [zr_fst] using h
  have:zn (decide (y < 0)) (y.natAbs + z.natAbs) = y + z:=by
   unfold zn
   by_cases hy0:y < 0
   ·rw [decide_eq_true hy0] at h3 ⊢
    have:z < 0:=by simpa using h3.symm
    rw [if_pos rfl];omega
   ·rw [decide_eq_false hy0] at h3 ⊢
    have:¬ z < 0:=by simpa using h3.symm
    rw [if_neg (by simp)];omega
  rw [this]
 ·refine Ev.congr (fun k=>if_neg h) (Ev.bind (compare_ev _ _ o1 o2).2 ?_)
  have h3:decide (y < 0)≠decide (z < 0):=by simpa [zr_fst] using h
  by_cases hc:z.natAbs≤y.natAbs
  ·refine Ev.congr (fun k=>if_pos ((ord_ge _ _).2 hc)) (Ev.bind (Minus_ev _ _ hc (by omega)) (Ev.congr (fun k=>?_) (Ev.now _)))
   rw [zr_fst,make_eq,Option.bind_some]
   have:zn (decide (y < 0)) (y.natAbs - z.natAbs) = y + z:=by
    unfold zn
    by_cases hy0:y < 0
    ·rw [decide_eq_true hy0] at h3 ⊢
     have:¬ z < 0:=fun e=>h3 (decide_eq_true e).symm
     rw [if_pos rfl];omega
    ·rw [decide_eq_false hy0] at h3 ⊢
     have:z < 0:=Classical.byContradiction fun e=>h3 (decide_eq_false e).symm
     rw [if_neg (by simp)];omega
   rw [this]
  ·refine Ev.congr (fun k=>if_neg (fun e=>hc ((ord_ge _ _).1 e))) (Ev.bind (Minus_ev _ _ (by omega) (by omega)) (Ev.congr (fun k=>?_) (Ev.now _)))
   rw [zr_fst,make_eq,Option.bind_some]
   have:zn (decide (z < 0)) (z.natAbs - y.natAbs) = y + z:=by
    unfold zn
    by_cases hz0:z < 0
    ·rw [decide_eq_true hz0] at h3 ⊢
     have:¬ y < 0:=fun e=>h3 (decide_eq_true e)
     rw [if_pos rfl];omega
    ·rw [decide_eq_false hz0] at h3 ⊢
     have:y < 0:=Classical.byContradiction fun e=>h3 (decide_eq_false e)
     rw [if_neg (by simp)];omega
   rw [this]
theorem rto_ev {e:Nat} {z:Int} (hz:Zs e z) (he:1≤e) (h2:e≤100000):Ev (fun k=>garboardref02_To.f k (zr z).1 (zr z).2) (it z):=by
 have l:=hz.len
 have hs:=sz_size he hz
 have t:=To_ev z.natAbs (by omega)
 unfold garboardref02_To.f it
 by_cases h:z < 0
 ·rw [if_pos h]
  refine Ev.congr (fun k=>if_pos (decide_eq_true h)) (Ev.bind t (Ev.congr (fun k=>if_pos ?_) (Ev.now _)))
  omega
 ·rw [if_neg h]
  exact Ev.congr (fun k=>if_neg (by rw [zr_fst];simpa using h)) (Ev.bind t (Ev.now _))
end Go.Proofs.YtaknchlegjcdhaaGreatDoor.Pr
set_option linter.unusedVariables false
set_option linter.unusedSimpArgs false
namespace Go.Proofs.YtaknchlegjcdhaaGreatDoor.Pr
open Go.RowKit Go.Lib Go.Proofs.YtaknchlegjcdhaaGreatDoorW.PrintWords Go.Proofs.YtaknchlegjcdhaaGreatDoorW.PrintLast Go.Proofs.YtaknchlegjcdhaaGreatDoorW.PrintMore Go.Proofs.YtaknchlegjcdhaaGreatDoor.NatTh
theorem bt0 (a:ByteArray) (h:0 < a.size):(bt a 0 = 45) ↔ ngB a = true:=by
 have e:=bt_get a 0 h
 rw [show ((0:Nat):Int) = 0 from rfl] at e
 rw [e]
 have hl:=bs_length a
 unfold ngB
 cases hb:bs a with
 | nil=>rw [hb] at hl;simp at hl;omega
 | cons c l =>
  simp only [List.getD_cons_zero,List.head?_cons]
  constructor
  ·intro h1
   have:c.toNat = 45:=by omega
   have:c = 45:=UInt8.toNat_inj.1 this
   rw [this];rfl
  ·intro h1
   have:c = 45:=by simpa using h1
   rw [this];rfl
theorem ex1_size (a:ByteArray):(a.extract 1 a.size).size = a.size - 1:=by rw [ByteArray.size_extract];omega
theorem nv_ng {a:ByteArray} (h:ngB a = true):nv a = false:=by
 cases hv:nv a with
 | false=>rfl
 | true =>
  have h1:=num_nat hv
  have h2:=head_num (nat a)
  rw [h1] at h2
  unfold ngB at h
  exact absurd (by simpa using h) h2
theorem nv_pos {a:ByteArray} (h:nv a = true):0 < a.size:=by
 rw [← bs_length]
 have h1:=((nv_iff a).1 h)
 cases hb:bs a with
 | nil=>unfold nv at h;rw [hb] at h;simp at h
 | cons c l=>simp
theorem iv_pos {a:ByteArray} (h:iv a = true):0 < a.size:=Nat.lt_of_lt_of_le (nv_pos (iv_nv h)) (ab_size a)
theorem rvalid_ev (a:ByteArray) (ha:S1 a):Ev (fun k=>garboardref02_Valid.f k a) (iv a):=by
 unfold S1 at ha
 have hl:=bs_length a
 unfold garboardref02_Valid.f
 by_cases h1:(a.size:Int) > 1
 ·refine Ev.congr (fun k=>(if_pos h1).trans (if_pos (by omega))) ?_
  by_cases hn:ngB a = true
  ·have hb:((bt a 0) == 45) = true:=beq_iff_eq.2 ((bt0 a (by omega)).2 hn)
   rw [hb]
   have hab:abB a = a.extract 1 a.size:=if_pos hn
   by_cases h0:a.toList = ([45,48]:List UInt8)
   ·refine Ev.step (f:=fun _=>some (iv a)) (fun k=>?_) (Ev.now _)
    rw [garboardref02_Valid.j0,if_pos rfl,if_pos h0]
    congr 1
    unfold iv
    rw [hn,hab,toL (a.extract 1 a.size),bs_from,← toL,h0]
    simp
   ·have v:=rValid_ev (abB a) (Nat.lt_of_le_of_lt (ab_size a) (by omega))
    refine Ev.step (f:=fun k=>(garboardref01_Valid.f k (abB a)).bind fun t=>some t) (fun k=>?_) (Ev.bind v ?_)
    ·rw [garboardref02_Valid.j0,if_pos rfl,if_neg h0,if_pos (by omega),hab]
    ·have:iv a = nv (abB a):=by
      unfold iv
      rw [hn]
      cases hv:nv (abB a) with
      | false=>rfl
      | true =>
       have:((abB a).toList == ([48]:List UInt8)) = false:=by
        refine beq_eq_false_iff_ne.2 (fun e=>h0 ?_)
        rw [hab,toL,bs_from] at e
        rw [toL]
        unfold ngB at hn
        cases hb2:bs a with
        | nil=>rw [hb2] at hn;cases hn
        | cons c l =>
         rw [hb2] at hn e
         have hc:c = 45:=by simpa using hn
         have he:l = [48]:=by simpa using e
         rw [hc,he]
       rw [this];rfl
     rw [this]
     exact Ev.now _
  ·have hb:((bt a 0) == 45) = false:=beq_eq_false_iff_ne.2 (fun e=>hn ((bt0 a (by omega)).1 e))
   rw [hb]
   have v:=rValid_ev a (by omega)
   have:iv a = nv a:=by
    unfold iv abB
    rw [if_neg hn,(by simpa using hn:ngB a = false)]
    simp
   rw [this]
   refine Ev.step (f:=fun k=>(garboardref01_Valid.f k a).bind fun t=>some t) (fun k=>?_) (Ev.bind v (Ev.now _))
   rw [garboardref02_Valid.j0,if_neg (by simp)]
 ·refine Ev.congr (fun k=>if_neg h1) ?_
  have v:=rValid_ev a (by omega)
  have:iv a = nv a:=by
   by_cases hn:ngB a = true
   ·rw [nv_ng hn]
    cases hv:iv a with
    | false=>rfl
    | true =>
     have h2:=nv_pos (iv_nv hv)
     have h3:abB a = a.extract 1 a.size:=if_pos hn
     rw [h3,ex1_size] at h2
     omega
   ·unfold iv abB
    rw [if_neg hn,(by simpa using hn:ngB a = false)]
    simp
  rw [this]
  refine Ev.step (f:=fun k=>(garboardref01_Valid.f k a).bind fun t=>some t) (fun k=>?_) (Ev.bind v (Ev.now _))
  rw [garboardref02_Valid.j0,if_neg (by simp)]
theorem rread_ev (a:ByteArray) (ha:S1 a) (h:iv a = true):Ev (fun k=>garboardref02_Read.f k a) (zr (zof a)):=by
 unfold S1 at ha
 have hp:=iv_pos h
 have e:=zp_zof h
 have hv:=iv_nv h
 have key:zr (zof a) = (ngB a,numOf (nat (abB a))):=by
  have e1:=(Prod.mk.inj e).1
  have e2:=(Prod.mk.inj e).2
  unfold zr
  rw [e1]
  have h3:(zof a).natAbs = nat (abB a):=num_inj (by rw [e2,num_nat hv])
  rw [h3]
 rw [key]
 have f:=From_ev (abB a) (by have:=ab_size a;omega) hv
 unfold garboardref02_Read.f
 refine Ev.congr (fun k=>if_pos (by omega)) ?_
 by_cases hn:ngB a = true
 ·have hab:abB a = a.extract 1 a.size:=if_pos hn
  rw [hab] at f ⊢
  rw [hn]
  exact Ev.congr (fun k=>(if_pos ((bt0 a hp).2 hn)).trans (if_pos (by omega))) (Ev.bind f (Ev.now _))
 ·have hab:abB a = a:=if_neg hn
  rw [hab] at f ⊢
  rw [(by simpa using hn:ngB a = false)]
  exact Ev.congr (fun k=>if_neg (fun e=>hn ((bt0 a hp).1 e))) (Ev.bind f (Ev.now _))
def bothR (a b:ByteArray):Bool × List Int × Bool × List Int × Int:=if okB a b = true then ((zr (zof a)).1,(zr (zof a)).2,(zr (zof b)).1,(zr (zof b)).2,0) else (false,[],false,[],1)
theorem rboth_ev (a b:ByteArray) (ha:S1 a) (hb:S1 b):Ev (fun k=>garboardref02_both.f k a b) (bothR a b):=by
 have va:=rvalid_ev a ha
 have vb:=rvalid_ev b hb
 unfold bothR okB
 refine Ev.congr (fun k=>rfl) (Ev.bind va ?_)
 cases h1:iv a with
 | false =>
  rw [Bool.false_and,if_neg (by simp)]
  refine Ev.congr (fun k=>if_neg (by simp)) (Ev.step (f:=fun _=>some _) (fun k=>?_) (Ev.now _))
  rw [garboardref02_both.j0,if_pos rfl]
 | true =>
  refine Ev.congr (fun k=>if_pos rfl) (Ev.bind vb ?_)
  rw [Bool.true_and]
  cases h2:iv b with
  | false =>
   rw [if_neg (by simp)]
   refine Ev.step (f:=fun _=>some _) (fun k=>?_) (Ev.now _)
   rw [garboardref02_both.j0,if_pos (by rfl)]
  | true =>
   rw [if_pos rfl]
   refine Ev.step (f:=fun k=>(garboardref02_Read.f k a).bind fun bt529=>((garboardref02_Read.f k b).bind fun bt533=>(some (bt529.1,bt529.2,bt533.1,bt533.2,0)))) (fun k=>?_) (Ev.bind (rread_ev a ha h1) (Ev.bind (rread_ev b hb h2) (Ev.now _)))
   rw [garboardref02_both.j0,if_neg (by simp)]
theorem rAdd_ev (a b:ByteArray) (ha:S1 a) (hb:S1 b):Ev (fun k=>garboardref02_Add.f k a b) (addZ a b):=by
 refine Ev.congr (fun k=>rfl) (Ev.bind (rboth_ev a b ha hb) ?_)
 unfold addZ bothR
 by_cases h:okB a b = true
 ·obtain ⟨h1,h2⟩:=ok_and h
  have z1:=zs_zof h1 ha
  have z2:=zs_zof h2 hb
  rw [if_pos h,if_pos h]
  exact Ev.congr (fun k=>if_pos rfl) (Ev.bind (rplus_ev z1 z2 (by omega)) (Ev.bind (rto_ev (z1.add z2) (by omega) (by omega)) (Ev.now _)))
 ·rw [if_neg h,if_neg h]
  exact Ev.congr (fun k=>if_neg (by simp)) (Ev.now _)
end Go.Proofs.YtaknchlegjcdhaaGreatDoor.Pr
set_option linter.unusedVariables false
set_option linter.unusedSimpArgs false
namespace Go.Proofs.YtaknchlegjcdhaaGreatDoor.Pr
open Go.RowKit Go.Lib Go.Proofs.YtaknchlegjcdhaaGreatDoorW.PrintWords Go.Proofs.YtaknchlegjcdhaaGreatDoorW.PrintLast Go.Proofs.YtaknchlegjcdhaaGreatDoorW.PrintMore Go.Proofs.YtaknchlegjcdhaaGreatDoor.NatTh
theorem s1_120 {a:ByteArray} (h:a.size≤120):S1 a:=(Nat.le_trans h (by omega):a.size≤1000)
end Go.Proofs.YtaknchlegjcdhaaGreatDoor.Pr
