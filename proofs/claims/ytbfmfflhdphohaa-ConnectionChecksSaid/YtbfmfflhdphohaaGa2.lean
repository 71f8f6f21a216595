/- Part 2 of 5: walks and laws of functions that the last part joins. The words of the print (W..) are the kit's, cut down by program to what is used here. -/
import Derived.Laws.StructEq
import Derived.Test.YtbfmfflhdphohaaProg
import Derived.Below
import Derived.Deep.Draws
import Derived.Deep.AppendLies
import Derived.Maps.AppendAt
import Derived.OwnWalk
import Derived.Laws.BytesArg
import Derived.Laws.MakeOwn
import Derived.Laws.OwnMore
import Derived.Deep.OwnRows
import Derived.Tactics
import Derived.Lib.ConvBytes
import Derived.Laws.Slices
import Derived.WalkKit
import Derived.KernelRfl
import Derived.RowKit3
import Derived.Deep.LoopGhost
import Derived.Deep.QuietTactic
import Derived.BigQuiet
import Derived.WideLaws
import Derived.Deep.DeepCutAuto
import Derived.Deep.CutBlock
import Derived.Deep.RegionHeld3
import Derived.Laws.Rows
import Derived.Lib.AppendStr
import Derived.ArgAppend
import Derived.Laws.IdiomCopy
import Derived.OrdersHeld
import Derived.Laws.BitsLemmas
import Derived.RowKit
import Derived.Lib.SmallJoins
import Derived.ProofKit
import Derived.Stop.Joined
import Derived.SizedLaws
import Derived.DataShut
import Derived.SliceStrings
import Derived.Maps.Own
import Derived.Maps.OwnOps
import Derived.Maps.Views
import Derived.Maps.OwnSet
import Derived.Maps.RangeWalk
import Derived.Shelf.Abstract
import Derived.Shelf.SlIterI.Nil
import Derived.Shelf.SortM.Plain
import Derived.Shelf.SortM.SortNone
import Derived.Test.YtbfmfflhdphohaaGa1
set_option linter.unusedVariables false
set_option linter.unusedSimpArgs false
namespace Go.Proofs.Ytbfmfflhdphohaa.Pr
open Go.RowKit Go.Proofs.YtbfmfflhdphohaaW.PrintWords Go.Proofs.YtbfmfflhdphohaaW.PrintLast Go.Proofs.YtbfmfflhdphohaaW.PrintMore
attribute [local go_sem] max2_int min2_int max_two min_two max_three min_three max_four min_four
def errW:Option Int→Value
 | none=>.nilIface
 | some c=>.iface 0 (.int .i64 c)
theorem errW_none:errW none = .nilIface:=rfl
theorem errW_some (c:Int):errW (some c) = .iface 0 (.int .i64 c):=rfl
theorem info3:(Try.prog.info? 3).map (fun i=>(i.zero,i.size,i.bytes)) = some (some (.int .i64 0),1,8):=by kernel_rfl
theorem info23:(Try.prog.info? 23).map (fun i=>(i.zero,i.size,i.bytes)) = some (some (.slice none 0 0),1,24):=by kernel_rfl
theorem info29:(Try.prog.info? 29).map (fun i=>(i.zero,i.size,i.bytes)) = some (some (.agg #[(.int .i64 0),(.slice none 0 0)]),2,32):=by kernel_rfl
theorem info48:(Try.prog.info? 48).map (fun i=>(i.zero,i.size,i.bytes)) = some (some (.agg #[(.int .i64 0),(.int .i64 0),(.int .i64 0),(.int .i64 0),(.string ⟨#[]⟩),(.string ⟨#[]⟩),(.string ⟨#[]⟩)]),7,80):=by kernel_rfl
structure S46 where
 f0:ByteArray
 f1:ByteArray
 f2:ByteArray
def z46:S46:=⟨(⟨#[]⟩:ByteArray),(⟨#[]⟩:ByteArray),(⟨#[]⟩:ByteArray)⟩
def k46:Kd S46:=Kd.iso (Kd.pair Kd.string (Kd.pair Kd.string Kd.string)) (fun x:S46=>(x.f0,x.f1,x.f2))
theorem k46_open {w:World} {x:S46} {cs:List Value} (h:k46.K w x cs):cs = [.string x.f0,.string x.f1,.string x.f2]:=by
 obtain ⟨_,_,rfl,rfl,⟨_,_,rfl,rfl,rfl⟩⟩:=h
 exact rfl
theorem k46_mk (w:World) (x:S46) :k46.K w x [.string x.f0,.string x.f1,.string x.f2]:=⟨[.string x.f0],[.string x.f1,.string x.f2],rfl,rfl,⟨[.string x.f1],[.string x.f2],rfl,rfl,rfl⟩⟩
theorem k46_mkM (w:World) (base:Nat) (ok:Nat→Prop) (x:S46) :k46.M w base ok x [.string x.f0,.string x.f1,.string x.f2]:=⟨[.string x.f0],[.string x.f1,.string x.f2],rfl,rfl,⟨[.string x.f1],[.string x.f2],rfl,rfl,rfl⟩⟩
structure S48 where
 f0:Int
 f1:Int
 f2:Int
 f3:Int
 f4:S46
def z48:S48:=⟨(0:Int),(0:Int),(0:Int),(0:Int),z46⟩
def k48:Kd S48:=Kd.iso (Kd.pair (Kd.int .i64) (Kd.pair (Kd.int .i64) (Kd.pair (Kd.int .i64) (Kd.pair (Kd.int .i64) k46)))) (fun x:S48=>(x.f0,x.f1,x.f2,x.f3,x.f4))
theorem k48_open {w:World} {x:S48} {cs:List Value} (h:k48.K w x cs):cs = [.int .i64 x.f0,.int .i64 x.f1,.int .i64 x.f2,.int .i64 x.f3,.string x.f4.f0,.string x.f4.f1,.string x.f4.f2]:=by
 obtain ⟨_,_,rfl,rfl,⟨_,_,rfl,rfl,⟨_,_,rfl,rfl,⟨_,_,rfl,rfl,s4⟩⟩⟩⟩:=h
 obtain rfl:=k46_open s4
 exact rfl
theorem k48_mk (w:World) (x:S48) :k48.K w x [.int .i64 x.f0,.int .i64 x.f1,.int .i64 x.f2,.int .i64 x.f3,.string x.f4.f0,.string x.f4.f1,.string x.f4.f2]:=⟨[.int .i64 x.f0],[.int .i64 x.f1,.int .i64 x.f2,.int .i64 x.f3,.string x.f4.f0,.string x.f4.f1,.string x.f4.f2],rfl,rfl,⟨[.int .i64 x.f1],[.int .i64 x.f2,.int .i64 x.f3,.string x.f4.f0,.string x.f4.f1,.string x.f4.f2],rfl,rfl,⟨[.int .i64 x.f2],[.int .i64 x.f3,.string x.f4.f0,.string x.f4.f1,.string x.f4.f2],rfl,rfl,⟨[.int .i64 x.f3],[.string x.f4.f0,.string x.f4.f1,.string x.f4.f2],rfl,rfl,(k46_mk w x.f4 )⟩⟩⟩⟩
theorem k48_mkM (w:World) (base:Nat) (ok:Nat→Prop) (x:S48) :k48.M w base ok x [.int .i64 x.f0,.int .i64 x.f1,.int .i64 x.f2,.int .i64 x.f3,.string x.f4.f0,.string x.f4.f1,.string x.f4.f2]:=⟨[.int .i64 x.f0],[.int .i64 x.f1,.int .i64 x.f2,.int .i64 x.f3,.string x.f4.f0,.string x.f4.f1,.string x.f4.f2],rfl,rfl,⟨[.int .i64 x.f1],[.int .i64 x.f2,.int .i64 x.f3,.string x.f4.f0,.string x.f4.f1,.string x.f4.f2],rfl,rfl,⟨[.int .i64 x.f2],[.int .i64 x.f3,.string x.f4.f0,.string x.f4.f1,.string x.f4.f2],rfl,rfl,⟨[.int .i64 x.f3],[.string x.f4.f0,.string x.f4.f1,.string x.f4.f2],rfl,rfl,(k46_mkM w base ok x.f4 )⟩⟩⟩⟩
def rd_T48 (xs:List S48) (i:Int):S48:=xs.getD i.toNat z48
theorem at_T48 {w:World} {A:Option Addr} {n:Nat} {xs:List S48} (h:Kd.C k48 w A n xs) (i:Int) (h0:0≤i) (h1:i < n):∃ ad ,A = some ad∧w.cell? (ad.add (i.toNat * 7)) = some (.int .i64 (rd_T48 xs i).f0)∧w.cell? ⟨(ad.add (i.toNat * 7)).block,(ad.add (i.toNat * 7)).off + 1,none⟩ = some (.int .i64 (rd_T48 xs i).f1)∧w.cell? ⟨(ad.add (i.toNat * 7)).block,(ad.add (i.toNat * 7)).off + 2,none⟩ = some (.int .i64 (rd_T48 xs i).f2)∧w.cell? ⟨(ad.add (i.toNat * 7)).block,(ad.add (i.toNat * 7)).off + 3,none⟩ = some (.int .i64 (rd_T48 xs i).f3)∧w.cell? ⟨(ad.add (i.toNat * 7)).block,(ad.add (i.toNat * 7)).off + 4,none⟩ = some (.string (rd_T48 xs i).f4.f0)∧w.cell? ⟨(ad.add (i.toNat * 7)).block,(ad.add (i.toNat * 7)).off + 5,none⟩ = some (.string (rd_T48 xs i).f4.f1)∧w.cell? ⟨(ad.add (i.toNat * 7)).block,(ad.add (i.toNat * 7)).off + 6,none⟩ = some (.string (rd_T48 xs i).f4.f2):=by
 obtain ⟨ad,c,e,_,hK,hc0⟩:=Kd.C_get h z48 i h0 h1
 have hc:∀ j u,c[j]? = some u→w.cell? (ad.add (i.toNat * 7 + j)) = some u:=hc0
 obtain rfl:=k48_open hK
 exact ⟨ad,e,hc 0 _ rfl,by rw [← add_field _ _ 1 (by omega)];exact hc 1 _ rfl,by rw [← add_field _ _ 2 (by omega)];exact hc 2 _ rfl,by rw [← add_field _ _ 3 (by omega)];exact hc 3 _ rfl,by rw [← add_field _ _ 4 (by omega)];exact hc 4 _ rfl,by rw [← add_field _ _ 5 (by omega)];exact hc 5 _ rfl,by rw [← add_field _ _ 6 (by omega)];exact hc 6 _ rfl⟩
def rd_L5 (xs:List (List Int)) (i:Int):(List Int):=xs.getD i.toNat ([]:List Int)
theorem at_L5 {w:World} {A:Option Addr} {n:Nat} {xs:List (List Int)} (h:Kd.C (Kd.slice 3 (Kd.int .i64)) w A n xs) (i:Int) (h0:0≤i) (h1:i < n):∃ ad A0 c0,A = some ad∧w.cell? (ad.add i.toNat) = some (.slice A0 (rd_L5 xs i).length c0)∧(rd_L5 xs i).length≤c0∧(Kd.int .i64).C w A0 (rd_L5 xs i).length (rd_L5 xs i):=by
 obtain ⟨ad,c,e,_,hK,hc0⟩:=Kd.C_get h ([]:List Int) i h0 h1
 have hc:∀ j u,c[j]? = some u→w.cell? (ad.add (i.toNat * 1 + j)) = some u:=hc0
 obtain ⟨A0,c0,rfl,l0,g0⟩:=hK
 exact ⟨ad,A0,c0,e,by have hq:=hc 0 _ rfl;rwa [Nat.mul_one,Nat.add_zero] at hq,l0,g0⟩
structure S29 where
 f0:Int
 f1:(List Int)
def z29:S29:=⟨(0:Int),([]:List Int)⟩
def k29:Kd S29:=Kd.iso (Kd.pair (Kd.int .i64) (Kd.slice 3 (Kd.int .i64))) (fun x:S29=>(x.f0,x.f1))
theorem k29_open {w:World} {x:S29} {cs:List Value} (h:k29.K w x cs):∃ A1 c1,cs = [.int .i64 x.f0,.slice A1 x.f1.length c1]∧x.f1.length≤c1∧(Kd.int .i64).C w A1 x.f1.length x.f1:=by
 obtain ⟨_,_,rfl,rfl,⟨A1,c1,rfl,l1,g1⟩⟩:=h
 exact ⟨A1,c1,rfl,l1,g1⟩
theorem k29_mk (w:World) (x:S29) {A1:Option Addr} {c1:Nat} (l1:x.f1.length≤c1) (g1:(Kd.int .i64).C w A1 x.f1.length x.f1):k29.K w x [.int .i64 x.f0,.slice A1 x.f1.length c1]:=⟨[.int .i64 x.f0],[.slice A1 x.f1.length c1],rfl,rfl,⟨A1,c1,rfl,l1,g1⟩⟩
theorem k29_mkM (w:World) (base:Nat) (ok:Nat→Prop) (x:S29) {v1:Value} (g1:(Kd.int .i64).R 3 w base ok v1 x.f1):k29.M w base ok x [.int .i64 x.f0,v1]:=⟨[.int .i64 x.f0],[v1],rfl,rfl,⟨v1,rfl,g1⟩⟩
def rd_T29 (xs:List S29) (i:Int):S29:=xs.getD i.toNat z29
theorem at_T29 {w:World} {A:Option Addr} {n:Nat} {xs:List S29} (h:Kd.C k29 w A n xs) (i:Int) (h0:0≤i) (h1:i < n):∃ ad A1 c1,A = some ad∧w.cell? (ad.add (i.toNat * 2)) = some (.int .i64 (rd_T29 xs i).f0)∧w.cell? ⟨(ad.add (i.toNat * 2)).block,(ad.add (i.toNat * 2)).off + 1,none⟩ = some (.slice A1 (rd_T29 xs i).f1.length c1)∧(rd_T29 xs i).f1.length≤c1∧(Kd.int .i64).C w A1 (rd_T29 xs i).f1.length (rd_T29 xs i).f1:=by
 obtain ⟨ad,c,e,_,hK,hc0⟩:=Kd.C_get h z29 i h0 h1
 have hc:∀ j u,c[j]? = some u→w.cell? (ad.add (i.toNat * 2 + j)) = some u:=hc0
 obtain ⟨A1,c1,rfl,l1,g1⟩:=k29_open hK
 exact ⟨ad,A1,c1,e,hc 0 _ rfl,by rw [← add_field _ _ 1 (by omega)];exact hc 1 _ rfl,l1,g1⟩
open Go.ChangeShapes Go.WideShapes Go.ChangeAt Go.Deep Go.Joins
theorem own:ownKnob Try.prog.godebug = none:=by kernel_rfl
theorem laidOut:laidOutB Try.prog = true:=by kernel_rfl
section
variable {H : Type} {enc : TypeId × Value → H} {W : World}
theorem rows_of {α:Type} (d:Kd α) (t e:TypeId) (ht:Try.prog.underlying t = some (.slice e)) (hC:Try.prog.cellsOf e = d.sz) (Q:α→Prop)
  (hK:∀ {n:Nat} {cs:List Value} {x:DataW H × List MemPlace},DataW.trod enc Try.prog W 0 (fun _=>true) true n e cs = some x→∃ p,d.K W p cs∧Q p)
  {n:Nat} {A:Option Addr} {len cap:Nat} {x:DataW H × List MemPlace} (h:DataW.trod enc Try.prog W 0 (fun _=>true) true n t [.slice A len cap] = some x) :
  len≤cap∧cap≤maxLen∧∃ xs:List α,xs.length = len∧Kd.C d W A len xs∧∀ p ∈ xs,Q p:=by
 rcases open_slice ht h with ⟨h0,_⟩|⟨a,len',cap',m,n',D,Pl,hcs,hb,hl,hm,hmm,hx,hi⟩
 ·simp at h0
  obtain ⟨rfl,rfl,rfl⟩:=h0
  exact ⟨by omega,by unfold maxLen;omega,[],rfl,⟨rfl,by omega,fun h=>by omega⟩,fun s hs=>by cases hs⟩
 ·simp at hcs
  obtain ⟨rfl,rfl,rfl⟩:=hcs
  simp only [if_true] at hmm
  have hx:∀ i:Fin len,∃ p:α,Q p∧∃ cs,d.K W p cs∧W.cells? 0 (a.add (i * d.sz)) d.sz = some cs:=fun i=>by
   obtain ⟨cs',hc,ht'⟩:=hi i (by have:=i.2;omega)
   obtain ⟨p,hp,hq⟩:=hK ht'
   rw [hC] at hc
   exact ⟨p,hq,cs',hp,hc⟩
  have hg:=fun i=>(hx i).choose_spec
  refine ⟨hl,hm,List.ofFn fun i=>(hx i).choose,by simp,⟨by simp,by unfold maxLen at hm;omega,fun _=>⟨a,rfl,fun j p hj=>?_⟩⟩,fun s hs=>?_⟩
  ·have hjl:j < len:=by
    have:=(List.getElem?_eq_some_iff.1 hj).1
    simpa using this
   have hp:(hx ⟨j,hjl⟩).choose = p:=by
    rw [List.getElem?_ofFn] at hj
    simpa [hjl] using hj
   obtain ⟨cs,hk,hc⟩:=(hg ⟨j,hjl⟩).2
   rw [hp] at hk
   obtain ⟨_,hcl,hat⟩:=World.cells?_some hc
   refine ⟨cs,d.K_len hk,hk,fun i u hu=>?_⟩
   have hil:i < d.sz:=by
    have:=(List.getElem?_eq_some_iff.1 hu).1
    rw [d.K_len hk] at this
    exact this
   rw [← Go.Deep.add_add,hat i hil,hu]
  ·obtain ⟨i,rfl⟩:=List.mem_ofFn.1 hs
   exact (hg i).1
theorem openInts {t e:TypeId} (ht:Try.prog.underlying t = some (.slice e)) (he:Try.prog.underlying e = some (.int .i64)) (hc:Try.prog.cellsOf e = 1) {n:Nat} {v:Value} {x:DataW H × List MemPlace} (h:DataW.trod enc Try.prog W 0 (fun _=>true) true n t [v] = some x) :
  ∃ A cap,∃ xs:List Int,v = .slice A xs.length cap∧xs.length≤cap∧cap≤maxLen∧Kd.C (Kd.int .i64) W A xs.length xs∧∀ a ∈ xs,(Lit.int .i64 a).wf = true:=by
 rcases slice_form ht h with ⟨A,len,cap,hv⟩
 obtain rfl:v = .slice A len cap:=by simpa using hv
 obtain ⟨h1,h2,xs,rfl,h3,h4⟩:=rows_of (Kd.int .i64) t e ht hc (fun a=>(Lit.int .i64 a).wf = true) (fun {n cs x} h=>by
  obtain ⟨a,e0,_,w0⟩:=DataW.trod_int he h
  exact ⟨a,e0,w0⟩) h
 exact ⟨A,cap,xs,rfl,h1,h2,h3,h4⟩
theorem trod_struct5 {t:TypeId} {f0 f1 f2 f3 f4:Field} {fuel:Nat} {cs:List Value} {x:DataW H × List MemPlace} (ht:Try.prog.underlying t = some (.struct #[f0,f1,f2,f3,f4])) (h:DataW.trod enc Try.prog W 0 (fun _=>true) true fuel t cs = some x) :
  ∃ y0 y1 y2 y3 y4 n,cs.length = Try.prog.cellsOf t∧DataW.trod enc Try.prog W 0 (fun _=>true) true n f0.type ((cs.drop f0.offset).take (Try.prog.cellsOf f0.type)) = some y0 ∧
   DataW.trod enc Try.prog W 0 (fun _=>true) true n f1.type ((cs.drop f1.offset).take (Try.prog.cellsOf f1.type)) = some y1∧DataW.trod enc Try.prog W 0 (fun _=>true) true n f2.type ((cs.drop f2.offset).take (Try.prog.cellsOf f2.type)) = some y2 ∧
   DataW.trod enc Try.prog W 0 (fun _=>true) true n f3.type ((cs.drop f3.offset).take (Try.prog.cellsOf f3.type)) = some y3∧DataW.trod enc Try.prog W 0 (fun _=>true) true n f4.type ((cs.drop f4.offset).take (Try.prog.cellsOf f4.type)) = some y4:=by
 obtain ⟨xs,n,_,rfl,hl,hlen,hf⟩:=DataW.trod_struct ht h
 match xs,hlen with
 | [y0,y1,y2,y3,y4],_=>exact ⟨y0,y1,y2,y3,y4,n,hl,by simpa using hf 0 f0 rfl,by simpa using hf 1 f1 rfl,by simpa using hf 2 f2 rfl,by simpa using hf 3 f3 rfl,by simpa using hf 4 f4 rfl⟩
theorem list7 {α:Type} {cs:List α} (h:cs.length = 7):∃ c0 c1 c2 c3 c4 c5 c6,cs = [c0,c1,c2,c3,c4,c5,c6]:=by
 match cs,h with
 | [c0,c1,c2,c3,c4,c5,c6],_=>exact ⟨c0,c1,c2,c3,c4,c5,c6,rfl⟩
theorem list3 {α:Type} {cs:List α} (h:cs.length = 3):∃ c0 c1 c2,cs = [c0,c1,c2]:=by
 match cs,h with
 | [c0,c1,c2],_=>exact ⟨c0,c1,c2,rfl⟩
theorem list2 {α:Type} {cs:List α} (h:cs.length = 2):∃ c0 c1,cs = [c0,c1]:=by
 match cs,h with
 | [c0,c1],_=>exact ⟨c0,c1,rfl⟩
theorem point_at {t:TypeId} {f0 f1 f2:Field} (he:Try.prog.underlying t = some (.struct #[f0,f1,f2])) (hone:oneCellFields Try.prog #[f0,f1,f2] = true) (hC:Try.prog.cellsOf t = 3)
  (t0:Try.prog.underlying f0.type = some .string) (t1:Try.prog.underlying f1.type = some .string) (t2:Try.prog.underlying f2.type = some .string)
  {n:Nat} {cs:List Value} {x:DataW H × List MemPlace} (h:DataW.trod enc Try.prog W 0 (fun _=>true) true n t cs = some x):∃ e:S46,cs = [.string e.f0,.string e.f1,.string e.f2]:=by
 obtain ⟨y0,y1,y2,m,_,hl,h0,h1,h2⟩:=trod_struct3 he h
 rw [hC] at hl
 obtain ⟨c0,c1,c2,rfl⟩:=list3 hl
 obtain ⟨o0,k0⟩:=hone_of hone 0 f0 rfl
 obtain ⟨o1,k1⟩:=hone_of hone 1 f1 rfl
 obtain ⟨o2,k2⟩:=hone_of hone 2 f2 rfl
 rw [o0,k0] at h0
 rw [o1,k1] at h1
 rw [o2,k2] at h2
 obtain ⟨a,e0,_,_⟩:=DataW.trod_string t0 h0
 obtain ⟨b,e1,_,_⟩:=DataW.trod_string t1 h1
 obtain ⟨c,e2,_,_⟩:=DataW.trod_string t2 h2
 simp at e0 e1 e2
 subst e0 e1 e2
 exact ⟨⟨a,b,c⟩,rfl⟩
def Oz (o:S48):Prop:=(Lit.int .i64 o.f0).wf = true∧(Lit.int .i64 o.f1).wf = true∧(Lit.int .i64 o.f2).wf = true∧(Lit.int .i64 o.f3).wf = true
theorem opening_at {t:TypeId} {f0 f1 f2 f3 f4:Field} (he:Try.prog.underlying t = some (.struct #[f0,f1,f2,f3,f4])) (hC:Try.prog.cellsOf t = 7)
  (t0:Try.prog.underlying f0.type = some (.int .i64)) (t1:Try.prog.underlying f1.type = some (.int .i64)) (t2:Try.prog.underlying f2.type = some (.int .i64)) (t3:Try.prog.underlying f3.type = some (.int .i64)) (t4:f4.type = 46)
  (c0:Try.prog.cellsOf f0.type = 1) (c1:Try.prog.cellsOf f1.type = 1) (c2:Try.prog.cellsOf f2.type = 1) (c3:Try.prog.cellsOf f3.type = 1) (c4:Try.prog.cellsOf f4.type = 3)
  (o0:f0.offset = 0) (o1:f1.offset = 1) (o2:f2.offset = 2) (o3:f3.offset = 3) (o4:f4.offset = 4)
  (hp:∀ {n:Nat} {cs:List Value} {x:DataW H × List MemPlace},DataW.trod enc Try.prog W 0 (fun _=>true) true n 46 cs = some x→∃ e:S46,cs = [.string e.f0,.string e.f1,.string e.f2])
  {n:Nat} {cs:List Value} {x:DataW H × List MemPlace} (h:DataW.trod enc Try.prog W 0 (fun _=>true) true n t cs = some x):∃ e:S48,k48.K W e cs∧Oz e:=by
 obtain ⟨y0,y1,y2,y3,y4,m,hl,h0,h1,h2,h3,h4⟩:=trod_struct5 he h
 rw [hC] at hl
 obtain ⟨v0,v1,v2,v3,v4,v5,v6,rfl⟩:=list7 hl
 rw [o0,c0] at h0
 rw [o1,c1] at h1
 rw [o2,c2] at h2
 rw [o3,c3] at h3
 rw [o4,c4,t4] at h4
 obtain ⟨a,e0,_,w0⟩:=DataW.trod_int t0 h0
 obtain ⟨b,e1,_,w1⟩:=DataW.trod_int t1 h1
 obtain ⟨c,e2,_,w2⟩:=DataW.trod_int t2 h2
 obtain ⟨d,e3,_,w3⟩:=DataW.trod_int t3 h3
 obtain ⟨p,e4⟩:=hp h4
 simp at e0 e1 e2 e3 e4
 obtain ⟨e4,e5,e6⟩:=e4
 subst e0 e1 e2 e3 e4 e5 e6
 exact ⟨⟨a,b,c,d,p⟩,k48_mk W ⟨a,b,c,d,p⟩,w0,w1,w2,w3⟩
set_option maxRecDepth 100000 in
theorem point_K {n:Nat} {cs:List Value} {x:DataW H × List MemPlace} (h:DataW.trod enc Try.prog W 0 (fun _=>true) true n 46 cs = some x):∃ e:S46,cs = [.string e.f0,.string e.f1,.string e.f2] :=
 point_at Try.underlying46 (by kernel_rfl) (by kernel_rfl) (by kernel_rfl) (by kernel_rfl) (by kernel_rfl) h
set_option maxRecDepth 100000 in
theorem opening_K {n:Nat} {cs:List Value} {x:DataW H × List MemPlace} (h:DataW.trod enc Try.prog W 0 (fun _=>true) true n 48 cs = some x):∃ e:S48,k48.K W e cs∧Oz e :=
 opening_at Try.underlying48 (by kernel_rfl) Try.underlying3 Try.underlying3 Try.underlying3 (by kernel_rfl) rfl (by kernel_rfl) (by kernel_rfl) (by kernel_rfl) (by kernel_rfl) (by kernel_rfl) rfl rfl rfl rfl rfl point_K h
def Tz (t:S29):Prop:=(Lit.int .i64 t.f0).wf = true∧∀ a ∈ t.f1,(Lit.int .i64 a).wf = true
theorem trace_at {t:TypeId} {f0 f1:Field} (he:Try.prog.underlying t = some (.struct #[f0,f1])) (hone:oneCellFields Try.prog #[f0,f1] = true) (hC:Try.prog.cellsOf t = 2)
  (t0:Try.prog.underlying f0.type = some (.int .i64)) (t1:Try.prog.underlying f1.type = some (.slice 3)) (u1:Try.prog.underlying 3 = some (.int .i64)) (n1:Try.prog.cellsOf 3 = 1)
  {n:Nat} {cs:List Value} {x:DataW H × List MemPlace} (h:DataW.trod enc Try.prog W 0 (fun _=>true) true n t cs = some x):∃ e:S29,k29.K W e cs∧Tz e:=by
 obtain ⟨y0,y1,m,_,hl,h0,h1⟩:=trod_struct2 he h
 rw [hC] at hl
 obtain ⟨c0,c1,rfl⟩:=list2 hl
 obtain ⟨o0,k0⟩:=hone_of hone 0 f0 rfl
 obtain ⟨o1,k1⟩:=hone_of hone 1 f1 rfl
 rw [o0,k0] at h0
 rw [o1,k1] at h1
 obtain ⟨a,e0,_,w0⟩:=DataW.trod_int t0 h0
 obtain ⟨A1,p1,xs1,e1,l1,m1,g1,w1⟩:=openInts t1 u1 n1 (v:=c1) h1
 simp at e0
 subst e0 e1
 exact ⟨⟨a,xs1⟩,k29_mk W ⟨a,xs1⟩ l1 g1,w0,w1⟩
set_option maxRecDepth 100000 in
theorem trace_K {n:Nat} {cs:List Value} {x:DataW H × List MemPlace} (h:DataW.trod enc Try.prog W 0 (fun _=>true) true n 29 cs = some x):∃ e:S29,k29.K W e cs∧Tz e :=
 trace_at Try.underlying29 (by kernel_rfl) (by kernel_rfl) Try.underlying3 (by kernel_rfl) Try.underlying3 (by kernel_rfl) h
set_option maxRecDepth 100000 in
theorem openOs {v:Value} {d:DataW H} {p:List MemPlace} (h:DataW.Trod enc Try.prog W 0 (fun _=>true) true 22 v d p) (hf:∃ A len cap,v = .slice A len cap) :
  ∃ A cap,∃ xs:List S48,v = .slice A xs.length cap∧xs.length≤cap∧Kd.C k48 W A xs.length xs∧∀ e ∈ xs,Oz e:=by
 obtain ⟨A,len,cap,rfl⟩:=hf
 obtain ⟨n,hn⟩:=h
 obtain ⟨h1,h2,xs,rfl,h3,h4⟩:=rows_of k48 22 48 Try.underlying22 (by kernel_rfl) Oz opening_K hn
 exact ⟨A,cap,xs,rfl,h1,h3,h4⟩
set_option maxRecDepth 100000 in
theorem openIs {v:Value} {d:DataW H} {p:List MemPlace} (h:DataW.Trod enc Try.prog W 0 (fun _=>true) true 23 v d p) (hf:∃ A len cap,v = .slice A len cap) :
  ∃ A cap,∃ xs:List Int,v = .slice A xs.length cap∧xs.length≤cap∧Kd.C (Kd.int .i64) W A xs.length xs∧∀ a ∈ xs,(Lit.int .i64 a).wf = true:=by
 obtain ⟨A,len,cap,rfl⟩:=hf
 obtain ⟨n,hn⟩:=h
 obtain ⟨A,cap,xs,e,h1,h2,h3,h4⟩:=openInts (t:=23) (e:=3) Try.underlying23 Try.underlying3 (by kernel_rfl) hn
 exact ⟨A,cap,xs,e,h1,h3,h4⟩
set_option maxRecDepth 100000 in
theorem openTs {v:Value} {d:DataW H} {p:List MemPlace} (h:DataW.Trod enc Try.prog W 0 (fun _=>true) true 24 v d p) (hf:∃ A len cap,v = .slice A len cap) :
  ∃ A cap,∃ xs:List S29,v = .slice A xs.length cap∧xs.length≤cap∧Kd.C k29 W A xs.length xs∧∀ e ∈ xs,Tz e:=by
 obtain ⟨A,len,cap,rfl⟩:=hf
 obtain ⟨n,hn⟩:=h
 obtain ⟨h1,h2,xs,rfl,h3,h4⟩:=rows_of k29 24 29 Try.underlying24 (by kernel_rfl) Tz trace_K hn
 exact ⟨A,cap,xs,rfl,h1,h3,h4⟩
end
def garboardlaw32_example.f :Option ((List (S48)) × List Int):=some ((([(⟨1,0,1,0,(⟨(⟨#[]⟩:ByteArray),(⟨#[]⟩:ByteArray),(⟨#[]⟩:ByteArray)⟩:S46)⟩:S48),(⟨2,0,2,0,(⟨(⟨#[]⟩:ByteArray),(⟨#[]⟩:ByteArray),(⟨#[]⟩:ByteArray)⟩:S46)⟩:S48),(⟨3,1,3,0,(⟨(⟨#[]⟩:ByteArray),(⟨#[]⟩:ByteArray),(⟨#[]⟩:ByteArray)⟩:S46)⟩:S48),(⟨4,2,3,0,(⟨(⟨#[]⟩:ByteArray),(⟨#[]⟩:ByteArray),(⟨#[]⟩:ByteArray)⟩:S46)⟩:S48),(⟨5,3,4,0,(⟨(⟨#[]⟩:ByteArray),(⟨#[]⟩:ByteArray),(⟨#[]⟩:ByteArray)⟩:S46)⟩:S48)]:List (S48))),(([1,2,3,4,5]:List Int)))
set_option maxHeartbeats 8000000 in
set_option maxRecDepth 100000 in
theorem garboardlaw32_example.calls  (r1:List (S48)) (r2:List Int) (w:World) (h:garboardlaw32_example.f  = some (r1,r2)) :
  Calls Try.prog 44 #[] w fun e w'=>∃ v0_ v1_:Value,e = .returned (.tuple #[v0_,v1_])∧Kd.R k48 48 w' w.heap.size (fun _=>True) v0_ r1∧Kd.R (Kd.int .i64) 3 w' w.heap.size (fun _=>True) v1_ r2∧Below w.heap.size w w':=by
 have hu48:=Try.underlying48
 have HB:=Aside0.mk (Below.refl w.heap.size w)
 have H:(some ((([(⟨1,0,1,0,(⟨(⟨#[]⟩:ByteArray),(⟨#[]⟩:ByteArray),(⟨#[]⟩:ByteArray)⟩:S46)⟩:S48),(⟨2,0,2,0,(⟨(⟨#[]⟩:ByteArray),(⟨#[]⟩:ByteArray),(⟨#[]⟩:ByteArray)⟩:S46)⟩:S48),(⟨3,1,3,0,(⟨(⟨#[]⟩:ByteArray),(⟨#[]⟩:ByteArray),(⟨#[]⟩:ByteArray)⟩:S46)⟩:S48),(⟨4,2,3,0,(⟨(⟨#[]⟩:ByteArray),(⟨#[]⟩:ByteArray),(⟨#[]⟩:ByteArray)⟩:S46)⟩:S48),(⟨5,3,4,0,(⟨(⟨#[]⟩:ByteArray),(⟨#[]⟩:ByteArray),(⟨#[]⟩:ByteArray)⟩:S46)⟩:S48)]:List (S48))),(([1,2,3,4,5]:List Int)))) = some (r1,r2):=h
 clear h
 obtain ⟨y245,hy245⟩:∃ y_:List (S48),y_ = (([(⟨1,0,1,0,(⟨(⟨#[]⟩:ByteArray),(⟨#[]⟩:ByteArray),(⟨#[]⟩:ByteArray)⟩:S46)⟩:S48),(⟨2,0,2,0,(⟨(⟨#[]⟩:ByteArray),(⟨#[]⟩:ByteArray),(⟨#[]⟩:ByteArray)⟩:S46)⟩:S48),(⟨3,1,3,0,(⟨(⟨#[]⟩:ByteArray),(⟨#[]⟩:ByteArray),(⟨#[]⟩:ByteArray)⟩:S46)⟩:S48),(⟨4,2,3,0,(⟨(⟨#[]⟩:ByteArray),(⟨#[]⟩:ByteArray),(⟨#[]⟩:ByteArray)⟩:S46)⟩:S48),(⟨5,3,4,0,(⟨(⟨#[]⟩:ByteArray),(⟨#[]⟩:ByteArray),(⟨#[]⟩:ByteArray)⟩:S46)⟩:S48)]:List (S48))):=⟨_,rfl⟩
 replace H:(some (y245,(([1,2,3,4,5]:List Int)))) = some (r1,r2):=by first|(rw [hy245];with_reducible exact H)|(have H2_:=(Option.bind_some _ _).symm.trans H;rw [hy245];with_reducible exact H2_)|(have H2_:=(Option.bind_some _ _).symm.trans H;with_reducible exact H2_)|with_reducible exact H|(rw [hy245];exact H)|exact H
 have Ny245:=Aside0.mk hy245
 clear hy245
 obtain ⟨y248,hy248⟩:∃ y_:List Int,y_ = (([1,2,3,4,5]:List Int)):=⟨_,rfl⟩
 replace H:(some (y245,y248)) = some (r1,r2):=by first|(rw [hy248];with_reducible exact H)|(have H2_:=(Option.bind_some _ _).symm.trans H;rw [hy248];with_reducible exact H2_)|(have H2_:=(Option.bind_some _ _).symm.trans H;with_reducible exact H2_)|with_reducible exact H|(rw [hy248];exact H)|exact H
 have Ny248:=Aside0.mk hy248
 clear hy248
 simp only [Option.some.injEq,Prod.mk.injEq] at H
 obtain ⟨rfl,rfl⟩:=H
 go_enter Try.func44,Try.ntmps44
 go_wp2_with (first|((with_reducible refine gate_dst (N:=7) rfl ?_);refine Kd.R_lit k48 _ 48 ?hg (N:=7) ?hd (xs:=([(⟨1,0,1,0,(⟨(⟨#[]⟩:ByteArray),(⟨#[]⟩:ByteArray),(⟨#[]⟩:ByteArray)⟩:S46)⟩:S48),(⟨2,0,2,0,(⟨(⟨#[]⟩:ByteArray),(⟨#[]⟩:ByteArray),(⟨#[]⟩:ByteArray)⟩:S46)⟩:S48),(⟨3,1,3,0,(⟨(⟨#[]⟩:ByteArray),(⟨#[]⟩:ByteArray),(⟨#[]⟩:ByteArray)⟩:S46)⟩:S48),(⟨4,2,3,0,(⟨(⟨#[]⟩:ByteArray),(⟨#[]⟩:ByteArray),(⟨#[]⟩:ByteArray)⟩:S46)⟩:S48),(⟨5,3,4,0,(⟨(⟨#[]⟩:ByteArray),(⟨#[]⟩:ByteArray),(⟨#[]⟩:ByteArray)⟩:S46)⟩:S48)]:List (S48))) (inner:=[.int .i64 1,.int .i64 0,.int .i64 1,.int .i64 0,.string (⟨#[]⟩:ByteArray),.string (⟨#[]⟩:ByteArray),.string (⟨#[]⟩:ByteArray),.int .i64 2,.int .i64 0,.int .i64 2,.int .i64 0,.string (⟨#[]⟩:ByteArray),.string (⟨#[]⟩:ByteArray),.string (⟨#[]⟩:ByteArray),.int .i64 3,.int .i64 1,.int .i64 3,.int .i64 0,.string (⟨#[]⟩:ByteArray),.string (⟨#[]⟩:ByteArray),.string (⟨#[]⟩:ByteArray),.int .i64 4,.int .i64 2,.int .i64 3,.int .i64 0,.string (⟨#[]⟩:ByteArray),.string (⟨#[]⟩:ByteArray),.string (⟨#[]⟩:ByteArray),.int .i64 5,.int .i64 3,.int .i64 4,.int .i64 0,.string (⟨#[]⟩:ByteArray),.string (⟨#[]⟩:ByteArray),.string (⟨#[]⟩:ByteArray)]) (ok:=fun _=>True) (okp:=fun _=>True) ?hr ?hp (fun _ hk=>hk) trivial (Below.refl _ _) (Nat.le_refl _) (by simp) ?_;(case hd=>rfl);(case hg=>rfl);(case hr=>first|(go_simp;done)|(go_simp;rfl));(case hp=>exact (Reps.c7 (show Kd.M k48 _ _ _ (⟨1,0,1,0,(⟨(⟨#[]⟩:ByteArray),(⟨#[]⟩:ByteArray),(⟨#[]⟩:ByteArray)⟩:S46)⟩:S48) [.int .i64 1,.int .i64 0,.int .i64 1,.int .i64 0,.string (⟨#[]⟩:ByteArray),.string (⟨#[]⟩:ByteArray),.string (⟨#[]⟩:ByteArray)] from (k48_mkM _ _ _ (⟨1,0,1,0,(⟨(⟨#[]⟩:ByteArray),(⟨#[]⟩:ByteArray),(⟨#[]⟩:ByteArray)⟩:S46)⟩:S48) )) (Reps.c7 (show Kd.M k48 _ _ _ (⟨2,0,2,0,(⟨(⟨#[]⟩:ByteArray),(⟨#[]⟩:ByteArray),(⟨#[]⟩:ByteArray)⟩:S46)⟩:S48) [.int .i64 2,.int .i64 0,.int .i64 2,.int .i64 0,.string (⟨#[]⟩:ByteArray),.string (⟨#[]⟩:ByteArray),.string (⟨#[]⟩:ByteArray)] from (k48_mkM _ _ _ (⟨2,0,2,0,(⟨(⟨#[]⟩:ByteArray),(⟨#[]⟩:ByteArray),(⟨#[]⟩:ByteArray)⟩:S46)⟩:S48) )) (Reps.c7 (show Kd.M k48 _ _ _ (⟨3,1,3,0,(⟨(⟨#[]⟩:ByteArray),(⟨#[]⟩:ByteArray),(⟨#[]⟩:ByteArray)⟩:S46)⟩:S48) [.int .i64 3,.int .i64 1,.int .i64 3,.int .i64 0,.string (⟨#[]⟩:ByteArray),.string (⟨#[]⟩:ByteArray),.string (⟨#[]⟩:ByteArray)] from (k48_mkM _ _ _ (⟨3,1,3,0,(⟨(⟨#[]⟩:ByteArray),(⟨#[]⟩:ByteArray),(⟨#[]⟩:ByteArray)⟩:S46)⟩:S48) )) (Reps.c7 (show Kd.M k48 _ _ _ (⟨4,2,3,0,(⟨(⟨#[]⟩:ByteArray),(⟨#[]⟩:ByteArray),(⟨#[]⟩:ByteArray)⟩:S46)⟩:S48) [.int .i64 4,.int .i64 2,.int .i64 3,.int .i64 0,.string (⟨#[]⟩:ByteArray),.string (⟨#[]⟩:ByteArray),.string (⟨#[]⟩:ByteArray)] from (k48_mkM _ _ _ (⟨4,2,3,0,(⟨(⟨#[]⟩:ByteArray),(⟨#[]⟩:ByteArray),(⟨#[]⟩:ByteArray)⟩:S46)⟩:S48) )) (Reps.c7 (show Kd.M k48 _ _ _ (⟨5,3,4,0,(⟨(⟨#[]⟩:ByteArray),(⟨#[]⟩:ByteArray),(⟨#[]⟩:ByteArray)⟩:S46)⟩:S48) [.int .i64 5,.int .i64 3,.int .i64 4,.int .i64 0,.string (⟨#[]⟩:ByteArray),.string (⟨#[]⟩:ByteArray),.string (⟨#[]⟩:ByteArray)] from (k48_mkM _ _ _ (⟨5,3,4,0,(⟨(⟨#[]⟩:ByteArray),(⟨#[]⟩:ByteArray),(⟨#[]⟩:ByteArray)⟩:S46)⟩:S48) )) (Reps.none _ _)))))));intro v246 w1 ho2 hb hg_ hnew_;clear hg_ hnew_;(first|rw [← Ny245.out] at ho2|(simp only [Int.reduceToNat] at ho2;rw [← Ny245.out] at ho2));have n0_:=Aside0.mk (Kd.R_lower ho2 (below_size (by repeat (first|(with_reducible first|exact HB.out|apply below_alloc|apply pw_below_drewN|apply below_drew1)|exact HB.out))));have n1_:=Aside0.mk (below_step (by repeat (first|(with_reducible first|exact HB.out|apply below_alloc|apply pw_below_drewN|apply below_drew1)|exact HB.out)) hb);clear HB;have HO247:=n0_;have HB:=n1_;clear n0_ n1_;clear hb ho2)|((with_reducible refine gate_dst (N:=8) rfl ?_);refine Kd.R_lit (Kd.int .i64) _ 3 ?hg (N:=8) ?hd (xs:=([1,2,3,4,5]:List Int)) (inner:=[.int .i64 1,.int .i64 2,.int .i64 3,.int .i64 4,.int .i64 5]) (ok:=fun _=>True) (okp:=fun _=>True) ?hr ?hp (fun _ hk=>hk) trivial (Below.refl _ _) (Nat.le_refl _) (by simp) ?_;(case hd=>rfl);(case hg=>rfl);(case hr=>first|(go_simp;done)|(go_simp;rfl));(case hp=>exact (Reps.one (show Kd.M (Kd.int .i64) _ _ _ 1 [.int .i64 1] from rfl) (Reps.one (show Kd.M (Kd.int .i64) _ _ _ 2 [.int .i64 2] from rfl) (Reps.one (show Kd.M (Kd.int .i64) _ _ _ 3 [.int .i64 3] from rfl) (Reps.one (show Kd.M (Kd.int .i64) _ _ _ 4 [.int .i64 4] from rfl) (Reps.one (show Kd.M (Kd.int .i64) _ _ _ 5 [.int .i64 5] from rfl) (Reps.none _ _)))))));intro v249 w3 ho4 hb hg_ hnew_;clear hg_ hnew_;(first|rw [← Ny248.out] at ho4|(simp only [Int.reduceToNat] at ho4;rw [← Ny248.out] at ho4));have n0_:=Aside0.mk (Kd.R_below (by (with_reducible repeat (first|apply Kd.R_alloc|apply Kd.R_drewN|apply Kd.R_drew));exact HO247.out) hb);have n1_:=Aside0.mk (Kd.R_lower ho4 (below_size (by repeat (first|(with_reducible first|exact HB.out|apply below_alloc|apply pw_below_drewN|apply below_drew1)|exact HB.out))));have n2_:=Aside0.mk (below_step (by repeat (first|(with_reducible first|exact HB.out|apply below_alloc|apply pw_below_drewN|apply below_drew1)|exact HB.out)) hb);clear HO247;clear HB;have HO247:=n0_;have HO250:=n1_;have HB:=n2_;clear n0_ n1_ n2_;clear hb ho4))
 go_ret2
 exact ⟨_,_,by first|rfl|(simp [errW_none,errW_some]<;>rfl)|(simp [*,errW_none,errW_some]<;>rfl),by (with_reducible repeat (first|apply Kd.R_alloc|apply Kd.R_drewN|apply Kd.R_drew));exact HO247.out,by (with_reducible repeat (first|apply Kd.R_alloc|apply Kd.R_drewN|apply Kd.R_drew));exact HO250.out,by repeat (first|(with_reducible first|exact HB.out|apply below_alloc|apply pw_below_drewN|apply below_drew1)|exact HB.out)⟩
def slices_Equal_int_int.l0:Nat→List Int→List Int→Int→Int→Option (Bool)
 | 0,_,_,_,_=>none
 | k + 1,x0,x1,x12,x13=>if x13 < x12 then (if 0≤x13 then (if x13 < (x0.length:Int) then (if x13 < (x1.length:Int) then (if (rd x0 x13) = (rd x1 x13) then (slices_Equal_int_int.l0 k x0 x1 x12 (wrap64 (x13 + 1))) else (some false)) else (none)) else (none)) else (none)) else (some true)
def slices_Equal_int_int.f (k:Nat) (l0:List Int) (l1:List Int):Option (Bool):=if (l0.length:Int) = (l1.length:Int) then (slices_Equal_int_int.l0 k l0 l1 (l0.length:Int) 0) else (some false)
set_option maxHeartbeats 8000000 in
set_option maxRecDepth 100000 in
theorem slices_Equal_int_int.calls (k:Nat) (A0:Option Addr) (c0:Nat) (l0:List Int) (A1:Option Addr) (c1:Nat) (l1:List Int) (r:Bool) (w:World) (hr0:Kd.C (Kd.int .i64) w A0 l0.length l0) (hc0:l0.length≤c0) (hr1:Kd.C (Kd.int .i64) w A1 l1.length l1) (hc1:l1.length≤c1) (h:slices_Equal_int_int.f k l0 l1 = some r) :
  Calls Try.prog 23 #[.slice A0 l0.length c0,.slice A1 l1.length c1] w fun e w'=>e = .returned (.bool r)∧Drawn0 w w':=by
 have HR0:=Aside0.mk hr0
 have HC0:=Aside0.mk hc0
 clear hr0 hc0
 have HR1:=Aside0.mk hr1
 have HC1:=Aside0.mk hc1
 clear hr1 hc1
 have H:(if (l0.length:Int) = (l1.length:Int) then (slices_Equal_int_int.l0 k l0 l1 (l0.length:Int) 0) else (some false)) = some r:=h
 clear h
 by_cases c3:(l0.length:Int) = (l1.length:Int)
 ·rw [if_pos c3] at H
  have c3b0:((l0.length:Int) == (l1.length:Int)) = true:=beq_iff_eq.mpr c3
  have c3b1:((l0.length:Int) != (l1.length:Int)) = false:=bne_eq_false_iff_eq.mpr c3
  have c3b2:(l0.length == l1.length) = true:=by first|simpa using c3|(simp at c3 ⊢;omega)
  clear c3
  have H':=Aside0.mk H
  clear H
  go_enter Try.func23,Try.ntmps23
  go_wp2
  repeat (go_quiet (fail);try go_wp2)
  go_loopg [13] k (fun kq v13 w'=>∃ (x13_1:Int),v13 = .int .i64 x13_1∧Aside0 (slices_Equal_int_int.l0 kq l0 l1 (l0.length:Int) x13_1 = some r)∧Aside0 (kq≤k)∧Drawn0 w w')
  case atStart=>exact ⟨(0),(by first|rfl|(simp;done)|(simp [*];done)),H',⟨Nat.le_refl _⟩,by repeat (first|exact Drawn0.refl _|apply Drawn0.step)⟩
  case round =>
   clear H'
   try clear c1
   try clear c2
   try clear p2
   try clear c3
   try clear c3b0
   try clear c3b1
   try clear c3b2
   obtain ⟨x13_1,rfl,HA,HK1,⟨m1,rfl⟩⟩:=hrel
   cases gk with
   | zero=>exact absurd HA.out (by simp [slices_Equal_int_int.l0])
   | succ k1 =>
    have H:=HA.out
    clear HA
    simp only [slices_Equal_int_int.l0] at H
    by_cases c4:x13_1 < (l0.length:Int)
    ·rw [if_pos c4] at H
     have c4b0:decide (x13_1 < (l0.length:Int)) = true:=decide_eq_true c4
     clear c4
     by_cases c5:0≤x13_1
     ·rw [if_pos c5] at H
      have c5b0:decide (0≤x13_1) = true:=decide_eq_true c5
      clear c5
      by_cases c6:x13_1 < (l0.length:Int)
      ·rw [if_pos c6] at H
       have c6b0:decide (x13_1 < (l0.length:Int)) = true:=decide_eq_true c6
       clear c6
       by_cases c7:x13_1 < (l1.length:Int)
       ·rw [if_pos c7] at H
        have c7b0:decide (x13_1 < (l1.length:Int)) = true:=decide_eq_true c7
        clear c7
        by_cases c8:(rd l0 x13_1) = (rd l1 x13_1)
        ·rw [if_pos c8] at H
         have c8b0:((rd l0 x13_1) == (rd l1 x13_1)) = true:=beq_iff_eq.mpr c8
         have c8b1:((rd l0 x13_1) != (rd l1 x13_1)) = false:=bne_eq_false_iff_eq.mpr c8
         clear c8
         have H':=Aside0.mk H
         clear H
         have p237:0≤(x13_1:Int):=of_decide_eq_true (by first|(with_reducible assumption)|assumption)
         have q237:x13_1 < (l0.length:Int):=of_decide_eq_true (by first|(with_reducible assumption)|assumption)
         obtain ⟨ad237,e237,hx237_0⟩:=Kd.at_int HR0.out x13_1 p237 q237
         cases e237
         replace p237:=eq_true p237
         replace q237:=eq_true q237
         have p238:0≤(x13_1:Int):=of_decide_eq_true (by first|(with_reducible assumption)|assumption)
         have q238:x13_1 < (l1.length:Int):=of_decide_eq_true (by first|(with_reducible assumption)|assumption)
         obtain ⟨ad238,e238,hx238_0⟩:=Kd.at_int HR1.out x13_1 p238 q238
         cases e238
         replace p238:=eq_true p238
         replace q238:=eq_true q238
         go_wp2
         repeat (go_quiet (fail);try go_wp2)
         go_roundg k1
         case measure=>have:=HK1.out;omega
         case rel=>exact ⟨(wrap64 (x13_1 + 1)),(by first|rfl|(simp;done)|(simp [*];done)),H',⟨by have:=HK1.out;omega⟩,by repeat (first|exact Drawn0.refl _|apply Drawn0.step)⟩
        ·rw [if_neg c8] at H
         have c8b0:((rd l0 x13_1) == (rd l1 x13_1)) = false:=beq_eq_false_iff_ne.mpr c8
         have c8b1:((rd l0 x13_1) != (rd l1 x13_1)) = true:=bne_iff_ne.mpr c8
         obtain rfl:=Option.some.inj H
         have p237:0≤(x13_1:Int):=of_decide_eq_true (by first|(with_reducible assumption)|assumption)
         have q237:x13_1 < (l0.length:Int):=of_decide_eq_true (by first|(with_reducible assumption)|assumption)
         obtain ⟨ad237,e237,hx237_0⟩:=Kd.at_int HR0.out x13_1 p237 q237
         cases e237
         replace p237:=eq_true p237
         replace q237:=eq_true q237
         have p238:0≤(x13_1:Int):=of_decide_eq_true (by first|(with_reducible assumption)|assumption)
         have q238:x13_1 < (l1.length:Int):=of_decide_eq_true (by first|(with_reducible assumption)|assumption)
         obtain ⟨ad238,e238,hx238_0⟩:=Kd.at_int HR1.out x13_1 p238 q238
         cases e238
         replace p238:=eq_true p238
         replace q238:=eq_true q238
         go_wp2
         repeat (go_quiet (fail);try go_wp2)
         go_ret
         exact ⟨by first|rfl|(simp;done)|(simp [*];done),by repeat (first|exact Drawn0.refl _|apply Drawn0.step)⟩
       ·rw [if_neg c7] at H
        exact absurd H (by simp)
      ·rw [if_neg c6] at H
       exact absurd H (by simp)
     ·rw [if_neg c5] at H
      exact absurd H (by simp)
    ·rw [if_neg c4] at H
     have c4b0:decide (x13_1 < (l0.length:Int)) = false:=decide_eq_false c4
     clear c4
     obtain rfl:=Option.some.inj H
     go_wp2
     repeat (go_quiet (fail);try go_wp2)
     go_ret
     exact ⟨by first|rfl|(simp;done)|(simp [*];done),by repeat (first|exact Drawn0.refl _|apply Drawn0.step)⟩
 ·rw [if_neg c3] at H
  have c3b0:((l0.length:Int) == (l1.length:Int)) = false:=beq_eq_false_iff_ne.mpr c3
  have c3b1:((l0.length:Int) != (l1.length:Int)) = true:=bne_iff_ne.mpr c3
  have c3b2:(l0.length == l1.length) = false:=by first|simpa using c3|(simp at c3 ⊢;omega)
  obtain rfl:=Option.some.inj H
  go_enter Try.func23,Try.ntmps23
  go_wp2
  repeat (go_quiet (fail);try go_wp2)
  go_ret
  exact ⟨by first|rfl|(simp;done)|(simp [*];done),by repeat (first|exact Drawn0.refl _|apply Drawn0.step)⟩
end Go.Proofs.Ytbfmfflhdphohaa.Pr
namespace Go.Proofs.Ytbfmfflhdphohaa
open Go.RowKit Go.Proofs.YtbfmfflhdphohaaW.PrintWords Go.Proofs.YtbfmfflhdphohaaW.PrintLast Go.Proofs.YtbfmfflhdphohaaW.PrintMore
theorem bx_ {p:Prop} (h:p:=by repeat (first|(with_reducible first|exact Aside0.out (by assumption)|apply below_alloc|apply pw_below_drewN|apply below_drew1|refine below_set ?_ (Aside0.out (by assumption)))|exact Aside0.out (by assumption))):p:=h
theorem bs_ {w W w2:World} (hb:Below W.heap.size W w2) (h:Below w.heap.size w W:=by repeat (first|(with_reducible first|exact Aside0.out (by assumption)|apply below_alloc|apply pw_below_drewN|apply below_drew1|refine below_set ?_ (Aside0.out (by assumption)))|exact Aside0.out (by assumption))):Aside0 (Below w.heap.size w w2):=⟨below_step h hb⟩
theorem cx_ {p q:Prop} (t:p) (h:p→q:=by intro t_;repeat (first|exact t_|(with_reducible refine Kd.C_alloc ?_ _)|(with_reducible refine Kd.C_drewN ?_ _)|(with_reducible refine Kd.C_drew ?_))):q:=h t
section
variable {P : Program} {ops : Array Oper} {rest : List Oper} {o : Oper} {a : Act} {Q : Exit → Act → World → Prop}
end
section
variable {P : Program} {ops : Array Oper} {Q : Exit → Act → World → Prop} {md : Region.Mode} {S : World → Prop} {ds : List Nat}
theorem pu_ {oi:Oper} {v:Value} {fuel:Nat} {l:Array Bool} {a a':Act} {w:World} (i:Nat) (N:Option Tmp) (l':Array Bool) (h:wpAnyLast P md ops Q S ds fuel l' a' w)
  (hi:ops[i]? = some oi:=by rfl) (hN:oi.dst = N:=by rfl) (hc:anyB md ops l l' i = true:=by first|exact any_of (Aside0.out (by assumption)) (by kernel_rfl)|kernel_rfl)
  (hy:Yields P ops oi v a:=by exact Or.inl ⟨by rfl,by intro w';go_simp;with_reducible rfl⟩)
  (hQ:∀ c a w,Q (.panic c) (a.put oi.dst v) w→Q (.panic c) a w:=by exact fun _ _ _ h=>h)
  (ha:a.put N v = a':=by simp only [Act.put,List.setIfInBounds_toArray,List.set_cons_zero,List.set_cons_succ,i64_w,i32_w];rfl):wpAnyLast P md ops Q S ds (fuel + 1) l a w :=
 pure_ l' hi hN hc hQ hy ha h
theorem tk_ {oi:Oper} {v:Value} {fuel:Nat} {l:Array Bool} {a a':Act} {w:World} (i:Nat) (N:Option Tmp) (l':Array Bool) (hS:S w) (h:wpAnyLast P md ops Q S ds fuel l' a' w)
  (hi:ops[i]? = some oi:=by rfl) (hN:oi.dst = N:=by rfl) (hc:takeB md ops ds l l' i = true:=by first|exact take_ofW (Aside0.out (by assumption)) (Aside0.out (by assumption)) (by kernel_rfl)|exact take_of (Aside0.out (by assumption)) (by kernel_rfl)|kernel_rfl)
  (hy:YieldsIf P ops S oi v a:=by exact Or.inl ⟨by rfl,by intro w' hs_;(iterate 40 (try (obtain ⟨_,hs_⟩:=hs_)));go_simp;with_reducible rfl⟩)
  (hQ:∀ c a w,Q (.panic c) (a.put oi.dst v) w→Q (.panic c) a w:=by exact fun _ _ _ h=>h)
  (ha:a.put N v = a':=by simp only [Act.put,List.setIfInBounds_toArray,List.set_cons_zero,List.set_cons_succ,i64_w,i32_w];rfl):wpAnyLast P md ops Q S ds (fuel + 1) l a w :=
 take_ l' hi hN hc hQ hy hS ha h
theorem oc_ {oi:Oper} {fuel:Nat} {l:Array Bool} {a:Act} {w:World} (i:Nat) (N:Option Tmp) (l':Array Bool) {f:FuncId} {fn:Func} {as_:Array Operand} {ts:Array TypeId} (hf:P.funcs[f]? = some fn) (args:Array Value)
  (h:∀ K:Act→World→Prop,Shut (∀ a' w',S w'→(S w'→wpAnyLast P md ops Q S ds fuel l' a' w')→K a' w')→Calls P f args w fun e w'=>∃ v,e = .returned v∧K (a.put N v) w')
  (hi:ops[i]? = some oi:=by rfl) (hN:oi.dst = N:=by rfl) (hc:readyB md ops l l' i = true:=by first|exact one_of (Aside0.out (by assumption)) (by kernel_rfl)|kernel_rfl) (hd:i ∉ ds:=by decide)
  (hname:(fn.name == "runtime.NumGoroutine") = false:=by kernel_rfl) (hb:fn.body.isSome = true:=by rfl) (hw:Region.wanted oi (yielded ops a.tmps) = true:=by rfl)
  (hop:oi.op = .call { callee:=.value (.func f),args:=as_,argTypes:=ts }:=by rfl)
  (hargs:as_.map a.eval = args:=by (try simp only [List.map_toArray,List.map_cons,List.map_nil]);first|done|rfl|(simp only [List.length_drop,List.length_take];rfl)):wpAnyLast P md ops Q S ds (fuel + 1) l a w :=
 one_ l' hi hN hc hd fun K hK=>goes_ hf hname hb args hw hN hop hargs (h K hK)
theorem hk_ {fuel:Nat} {l:Array Bool} {a a':Act} {w:World} {K:Act→World→Prop} (hK:Shut (∀ a' w',S w'→(S w'→wpAnyLast P md ops Q S ds fuel l a' w')→K a' w')) (h:S w→wpAnyLast P md ops Q S ds fuel l a' w)
  (hS:S w:=by first|exact trivial|((repeat' (first|refine And.intro ?_ ?_|exact (blk_cell (Aside0.out (by assumption)) _).trans rfl))))
  (ha:a = a':=by show Act.put _ _ _ = _;simp only [Act.put,List.setIfInBounds_toArray,List.set_cons_zero,List.set_cons_succ,i64_w,i32_w];rfl):K a w :=
 hK.out _ _ hS fun hs=>norm_ ha (h hs)
end
end Go.Proofs.Ytbfmfflhdphohaa
namespace Go.Proofs.Ytbfmfflhdphohaa.Pr
open Go.RowKit Go.Maps Go.Proofs.YtbfmfflhdphohaaW.PrintWords Go.Proofs.YtbfmfflhdphohaaW.PrintLast Go.Proofs.YtbfmfflhdphohaaW.PrintMore
theorem rx_ {p:Prop} (h:p:=by (with_reducible repeat (first|apply Kd.R_alloc|apply Kd.R_drewN|apply Kd.R_drew));exact Aside0.out (by assumption)):p:=h
theorem key3:Keyed Try.prog 3:=int_keyed Try.underlying3
def Rv (v:Value):Option (DataW Value × List MemPlace):=some (.held v,[])
def wfI (k:Int):Prop:=(Lit.int .i64 k).wf = true
theorem wfI_of {x:Int} (h0:-9223372036854775808≤x) (h1:x≤9223372036854775807):wfI x:=by
 show (decide (IntKind.i64.min≤x) && decide (x≤IntKind.i64.max)) = true
 rw [Bool.and_eq_true,decide_eq_true_eq,decide_eq_true_eq]
 exact ⟨h0,h1⟩
def Gives (D:DataW Value) (f:Int→Option Value):Prop :=
 (∀ k,wfI k→∀ zd,D.atKey (.int .i64 k) zd = match f k with|some v=>.held v|none=>zd)∧∀ k,f k≠none→wfI k
theorem Gives.has {D:DataW Value} {f:Int→Option Value} (h:Gives D f) {k:Int} (hk:wfI k):Maps.has D (.int .i64 k) = (f k).isSome:=by
 cases hf:f k with
 | none=>exact Maps.has_false_of_atKey (fun z=>by rw [h.1 k hk,hf])
 | some v=>exact Maps.has_true_of_atKey (y:=.held v) (fun z=>by rw [h.1 k hk,hf])
def MapV (W:World) (b n:Nat) (f:Int→Option Value):Prop:=∃ D,W.ownsMap Try.prog 3 Rv b n D∧Gives D f
theorem MapV.same {W W1:World} {b n:Nat} {f:Int→Option Value} (h:MapV W b n f) (hb:W1.heap[b]? = W.heap[b]?):MapV W1 b n f:=by
 obtain ⟨D,⟨es,clock,h1,h2,h3,h4⟩,hD⟩:=h
 exact ⟨D,⟨es,clock,hb.trans h1,h2,h3,h4⟩,hD⟩
theorem MapV.lt {W:World} {b n:Nat} {f:Int→Option Value} (h:MapV W b n f):b < W.heap.size:=by
 obtain ⟨D,⟨es,clock,h1,_⟩,_⟩:=h
 exact blk_lt h1
theorem MapV.blk {W:World} {b n:Nat} {f:Int→Option Value} (h:MapV W b n f):∃ es clock,W.heap[b]? = some (.map es clock):=by
 obtain ⟨D,⟨es,clock,h1,_⟩,_⟩:=h
 exact ⟨es,clock,h1⟩
theorem MapV.below {W W1:World} {b n:Nat} {f:Int→Option Value} (h:MapV W b n f) (hb:Below W.heap.size W W1):MapV W1 b n f:=h.same (hb.block b h.lt)
theorem MapV.grown {W W1:World} {b n:Nat} {f:Int→Option Value} {row:Option Nat} (h:MapV W b n f) (hg:W.grownBy W1 row) (hne:some b≠row):MapV W1 b n f:=h.same (hg.block b h.lt hne)
theorem MapV.up {W:World} {b n m:Nat} {f:Int→Option Value} (h:MapV W b n f) (hm:n≤m):MapV W b m f:=by
 obtain ⟨D,⟨es,clock,h1,h2,h3,h4⟩,hD⟩:=h
 exact ⟨D,⟨es,clock,h1,h2,by omega,h4⟩,hD⟩
theorem MapV.made (W:World):MapV (W.alloc (.map #[] 0)) W.heap.size 0 (fun _=>none):=⟨_,World.ownsMap_made _ _ _ _,fun k hk zd=>rfl,fun k h=>absurd rfl h⟩
theorem MapV.wf {W:World} {b n:Nat} {f:Int→Option Value} (h:MapV W b n f) {k:Int} {v:Value} (hf:f k = some v):wfI k:=by
 obtain ⟨D,_,hD⟩:=h
 exact hD.2 k (by rw [hf];simp)
theorem R_map {α:Type} {d:Kd α} {e base b n:Nat} {ok:Nat→Prop} {v:Value} {xs:List α} {W W1:World} {f:Int→Option Value} (h:d.R e W base ok v xs) (hm:MapV W b n f) (hg:W.grownBy W1 (some b)):d.R e W1 base ok v xs:=by
 obtain ⟨es,clock,hb⟩:=hm.blk
 refine Kd.R_mono (Kd.R_grown (Kd.R_bound h) hg (fun k hk e=>?_)) (fun k hk=>hk.1)
 obtain ⟨_,_,_,q,_,cells,hc⟩:=hk
 injection e with e
 subst e
 rw [hb] at hc
 cases hc
section
variable {ops : Array Oper} {rest : List Oper} {o : Oper} {a : Act} {Q : Exit → Act → World → Prop}
theorem makeMap_event {W:World} (t:TypeId) (hgd:o.guard = none) (ho:o.op = .makeMap t none)
  (h:∀ g,g = W.heap.size→∀ w1,MapV w1 g 0 (fun _=>none)→Below W.heap.size W w1→wpList Try.prog ops Q rest (a.put o.dst (.map (some g))) w1):wpList Try.prog ops Q (o :: rest) a W:=by
 refine Kd.event_run hgd (v:=.map (some W.heap.size)) (w1:=W.alloc (.map #[] 0)) ?_ (h _ rfl _ (MapV.made W) (below_alloc (Below.refl _ _) _))
 rw [show execOp a.eval o = (Next.value <$> Instr.makeMap t none) from by simp [execOp,ho]]
 rfl
theorem MapV.lookup {W:World} {b n:Nat} {f:Int→Option Value} (h:MapV W b n f) (t e:TypeId) (z:Value) (ht:Try.prog.underlying t = some (.map 3 e)) (hz:∀ w,(zeroValue e).run Try.prog w = .ok z w)
  (hg:o.guard = none) (m x:Operand) (hop:o.op = Op.lookup t m x false) (hm:a.eval m = .map (some b)) (k:Int) (hx:a.eval x = .int .i64 k) (hk:wfI k)
  (hK:wpList Try.prog ops Q rest (a.put o.dst ((f k).getD z)) W):wpList Try.prog ops Q (o :: rest) a W:=by
 obtain ⟨D,hown,hD⟩:=h
 refine wpList_plain hg fun K' hK'=>?_
 obtain ⟨v,ps,hrun,hv⟩:=hown.lookup key3 ht (hz W) (zd:=.held z) (zp:=[]) rfl (keyOf_int_mk Try.underlying3 hk)
 rw [hD.1 k hk] at hv
 have e1:v = (f k).getD z:=by
  have h1:DataW.held v = (match f k with|some v=>DataW.held v|none=>DataW.held z):=congrArg Prod.fst (Option.some.inj hv)
  cases hf:f k with
  | none=>rw [hf] at h1;exact DataW.held.inj h1
  | some y=>rw [hf] at h1;exact DataW.held.inj h1
 subst e1
 unfold Oper.wp
 simp [execOp,hop,hm,hx,hrun,Result.andThen]
 exact hK' _ _ hK
theorem MapV.lookup_ok {W:World} {b n:Nat} {f:Int→Option Value} (h:MapV W b n f) (t e:TypeId) (z:Value) (ht:Try.prog.underlying t = some (.map 3 e)) (hz:∀ w,(zeroValue e).run Try.prog w = .ok z w)
  (hg:o.guard = none) (m x:Operand) (hop:o.op = Op.lookup t m x true) (hm:a.eval m = .map (some b)) (k:Int) (hx:a.eval x = .int .i64 k) (hk:wfI k)
  (hK:wpList Try.prog ops Q rest (a.put o.dst (.tuple #[(f k).getD z,.bool (f k).isSome])) W):wpList Try.prog ops Q (o :: rest) a W:=by
 obtain ⟨D,hown,hD⟩:=h
 refine wpList_plain hg fun K' hK'=>?_
 obtain ⟨v,ps,hrun,hv⟩:=hown.look_ok key3 ht (hz W) (zd:=.held z) (zp:=[]) rfl (keyOf_int_mk Try.underlying3 hk)
 rw [hD.has hk] at hrun
 rw [hD.1 k hk] at hv
 have e1:v = (f k).getD z:=by
  have h1:DataW.held v = (match f k with|some v=>DataW.held v|none=>DataW.held z):=congrArg Prod.fst (Option.some.inj hv)
  cases hf:f k with
  | none=>rw [hf] at h1;exact DataW.held.inj h1
  | some y=>rw [hf] at h1;exact DataW.held.inj h1
 subst e1
 unfold Oper.wp
 simp [execOp,hop,hm,hx,hrun,Result.andThen]
 exact hK' _ _ hK
theorem Gives.put {D:DataW Value} {f:Int→Option Value} (hD:Gives D f) (hm:Maps.IsMap D) (k:Int) (v:Value) (hk:wfI k):Gives (D.put (.int .i64 k) (.held v)) (fun j=>if j = k then some v else f j):=by
 refine ⟨fun j hj zd=>?_,fun j hj=>?_⟩
 ·by_cases e:j = k
  ·subst e
   show _ = match (if j = j then some v else f j) with|some v=>DataW.held v|none=>zd
   rw [if_pos rfl]
   exact Maps.atKey_put_same hm (show WideAt.IsKeyLit (.int .i64 j) from trivial) _ _
  ·show _ = match (if j = k then some v else f j) with|some v=>DataW.held v|none=>zd
   rw [if_neg e,Maps.atKey_put_other (fun h=>e (by injection h)) _ _]
   exact hD.1 j hj zd
 ·by_cases e:j = k
  ·rw [e];exact hk
  ·replace hj:(if j = k then some v else f j)≠none:=hj
   rw [if_neg e] at hj
   exact hD.2 j hj
theorem MapV.update {W:World} {b n:Nat} {f:Int→Option Value} (h:MapV W b n f) (t e:TypeId) (ht:Try.prog.underlying t = some (.map 3 e))
  (hg:o.guard = none) (m x y:Operand) (hop:o.op = Op.mapUpdate t m x y) (hm:a.eval m = .map (some b)) (hn:n < 9223372036854775807) (k:Int) (v:Value) (hx:a.eval x = .int .i64 k) (hv:a.eval y = v) (hk:wfI k)
  (hK:∀ w',MapV w' b (n + 1) (fun j=>if j = k then some v else f j)→W.grownBy w' (some b)→wpList Try.prog ops Q rest (a.put o.dst undef) w'):wpList Try.prog ops Q (o :: rest) a W:=by
 obtain ⟨D,hown,hD⟩:=h
 refine wpList_mapUpdate_own W hg m x y t hop 3 e key3 ht Rv b n D hm hown (by unfold maxLen;omega) _ _ _ hx hv (keyOf_int_mk Try.underlying3 hk) (.held v) [] rfl ?_
 intro w' hown' hgr
 exact hK w' ⟨_,hown',hD.put hown.isMap k v hk⟩ hgr
def MapR (W:World) (b r n:Nat) (f:Int→Option Value) (left:Int→Prop) (cnt:Nat):Prop :=
 ∃ D lf,W.ranges Try.prog 3 Rv b r n D lf cnt∧Gives D f∧(∀ k,left k ↔ wfI k∧lf (.int .i64 k) = true)∧cnt≤n
theorem MapR.map {W:World} {b r n cnt:Nat} {f:Int→Option Value} {left:Int→Prop} (h:MapR W b r n f left cnt):MapV W b n f:=by
 obtain ⟨D,lf,h1,h2,_⟩:=h
 exact ⟨D,h1.owns,h2⟩
theorem MapR.cnt_le {W:World} {b r n cnt:Nat} {f:Int→Option Value} {left:Int→Prop} (h:MapR W b r n f left cnt):cnt≤n:=by
 obtain ⟨D,lf,h1,h2,_,h⟩:=h
 exact h
theorem MapR.grown {W W1:World} {b r n cnt:Nat} {f:Int→Option Value} {left:Int→Prop} {row:Option Nat} (h:MapR W b r n f left cnt) (hg:W.grownBy W1 row) (hb:some b≠row) (hr:some r≠row):MapR W1 b r n f left cnt:=by
 obtain ⟨D,lf,h1,h2⟩:=h
 exact ⟨D,lf,h1.kept hg hb hr,h2⟩
theorem MapR.below {W W1:World} {b r n cnt:Nat} {f:Int→Option Value} {left:Int→Prop} (h:MapR W b r n f left cnt) (hb:Below W.heap.size W W1):MapR W1 b r n f left cnt :=
 h.grown (grown_of_below hb none) (by simp) (by simp)
theorem MapV.range {W:World} {b n:Nat} {f:Int→Option Value} (h:MapV W b n f) (t e:TypeId) (ht:Try.prog.underlying t = some (.map 3 e)) (hg:o.guard = none) (m:Operand) (hop:o.op = Op.range t m) (hm:a.eval m = .map (some b))
  (hK:∀ w' left cnt,MapR w' b W.heap.size n f left cnt→(∀ k,left k ↔ (f k).isSome = true)→Below W.heap.size W w'→w'.heap.size = W.heap.size + 1→wpList Try.prog ops Q rest (a.put o.dst (.pointer (some ⟨W.heap.size,0,none⟩))) w') :
  wpList Try.prog ops Q (o :: rest) a W:=by
 obtain ⟨D,hown,hD⟩:=h
 refine wpList_range_own W hg m t hop 3 e key3 ht Rv b n D hm hown ?_
 intro w' hr hgr hs
 refine hK w' (fun k=>(f k).isSome = true) _ ⟨D,Maps.has D,hr,hD,fun k=>?_,hown.size_le⟩ (fun k=>Iff.rfl) ⟨hgr.os,hgr.tape,hgr.output,hgr.size,fun i hi=>hgr.block i hi (by simp)⟩ hs
 constructor
 ·intro hk
  replace hk:(f k).isSome = true:=hk
  have hw:=hD.2 k (fun e=>by rw [e] at hk;cases hk)
  exact ⟨hw,by rw [hD.has hw];exact hk⟩
 ·rintro ⟨hw,hk⟩
  rw [hD.has hw] at hk
  exact hk
theorem MapR.next {W:World} {b r n cnt:Nat} {f:Int→Option Value} {left:Int→Prop} (h:MapR W b r n f left cnt) (hg:o.guard = none) (it:Operand) (hop:o.op = Op.next it false) (hit:a.eval it = .pointer (some ⟨r,0,none⟩))
  (hDone:(∀ k,¬ left k)→wpList Try.prog ops Q rest (a.put o.dst (.tuple #[.bool false])) W)
  (hMore:∀ (x:Int) (v:Value) (w':World) (cnt':Nat) (left':Int→Prop),wfI x→left x→f x = some v→MapR w' b r n f left' cnt'→(∀ k,left' k ↔ left k∧k≠x)→cnt' < cnt→W.grownBy w' (some r)→w'.heap.size = W.heap.size →
   (Instr.entry (.pointer (some ⟨r,0,none⟩))).run Try.prog w' = .ok (.tuple #[.int .i64 x,v]) w'→wpList Try.prog ops Q rest (a.put o.dst (.tuple #[.bool true,.int .i64 x,v])) w') :
  wpList Try.prog ops Q (o :: rest) a W:=by
 obtain ⟨D,lf,hr,hD,hl,hc⟩:=h
 refine wpList_next_ranges W hg it hop 3 key3 Rv (Value.int .i64) id (fun key kl hkey=>?_) (fun v y _=>⟨v,rfl⟩) b r n D lf cnt hit hr ?_ ?_
 ·obtain ⟨x,rfl,_⟩:=Maps.keyOf_int_inv Try.underlying3 hkey
  exact ⟨x,rfl⟩
 ·intro _ hl0
  exact hDone (fun k hk=>by have:=(hl k).1 hk;rw [hl0] at this;exact absurd this.2 (by simp))
 ·intro x c kl y w' cnt' hkey hlk hv hat hrg hlt hgr hsz hen
  obtain ⟨x',ex,rfl,hwx⟩:=Maps.keyOf_int_inv Try.underlying3 hkey
  cases ex
  refine hMore x c w' cnt' (fun k=>left k∧k≠x) hwx ((hl x).2 ⟨hwx,hlk⟩) ?_ ⟨D,_,hrg,hD,fun k=>?_,by omega⟩ (fun k=>Iff.rfl) hlt hgr hsz hen
  ·have h1:=hat .nil
   rw [hD.1 x hwx] at h1
   replace hv:(DataW.held c,([]:List MemPlace)) = y:=Option.some.inj hv
   rw [← hv] at h1
   cases hf:f x with
   | none=>rw [hf] at h1;cases h1
   | some u=>rw [hf] at h1;exact congrArg some (DataW.held.inj h1)
  ·show left k∧k≠x ↔ _
   rw [hl k]
   constructor
   ·rintro ⟨⟨h1,h2⟩,h3⟩
    refine ⟨h1,?_⟩
    rw [h2]
    simp [Lit.sameKey,h3]
   ·rintro ⟨h1,h2⟩
    rw [Bool.and_eq_true] at h2
    refine ⟨⟨h1,h2.1⟩,?_⟩
    rintro rfl
    have:=h2.2
    simp [Lit.sameKey] at this
end
attribute [local go_sem] max2_int min2_int max_two min_two max_three min_three max_four min_four
def slices_Index_int_int.l0:Nat→List Int→Int→Int→Int→Option (Int)
 | 0,_,_,_,_=>none
 | k + 1,x0,x1,x7,x8=>if x8 < x7 then (if 0≤x8 then (if x8 < (x0.length:Int) then (if x1 = (rd x0 x8) then (some x8) else (slices_Index_int_int.l0 k x0 x1 x7 (wrap64 (x8 + 1)))) else (none)) else (none)) else (some (-1))
def slices_Index_int_int.f (k:Nat) (l0:List Int) (a1:Int):Option (Int):=slices_Index_int_int.l0 k l0 a1 (l0.length:Int) 0
theorem slices_Index_int_int.mono_l:∀ k,(∀ y0 y1 y2 y3,LeO (slices_Index_int_int.l0 k y0 y1 y2 y3) (slices_Index_int_int.l0 (k + 1) y0 y1 y2 y3))
 | 0=>fun _ _ _ _ r h=>by simp [slices_Index_int_int.l0] at h
 | k + 1=>by
  have ih0:=slices_Index_int_int.mono_l k
  ·intro y0 y1 y2 y3
   unfold slices_Index_int_int.l0
   repeat' first
   | (with_reducible exact ih0 _ _ _ _)
   | (with_reducible exact LeO.refl _)
   | (with_reducible exact LeO.none _)
   | (with_reducible refine LeO.ite ?_ ?_)
   | (with_reducible refine LeO.bind ?_ (fun _=>?_))
   | exact ih0 _ _ _ _
   | exact LeO.none _
   | refine LeO.ite ?_ ?_
   | refine LeO.bind ?_ (fun _=>?_)
theorem slices_Index_int_int.mono:∀ a0 a1 k,LeO (slices_Index_int_int.f k a0 a1) (slices_Index_int_int.f (k + 1) a0 a1):=by
 intro a0 a1 k
 have ih0:=slices_Index_int_int.mono_l k
 unfold slices_Index_int_int.f
 repeat' first
   | (with_reducible exact ih0 _ _ _ _)
   | (with_reducible exact LeO.refl _)
   | (with_reducible exact LeO.none _)
   | (with_reducible refine LeO.ite ?_ ?_)
   | (with_reducible refine LeO.bind ?_ (fun _=>?_))
   | exact ih0 _ _ _ _
   | exact LeO.none _
   | refine LeO.ite ?_ ?_
   | refine LeO.bind ?_ (fun _=>?_)
set_option maxHeartbeats 8000000 in
set_option maxRecDepth 100000 in
theorem slices_Index_int_int.calls (k:Nat) (A0:Option Addr) (c0:Nat) (l0:List Int) (a1:Int) (r:Int) (w:World) (hr0:Kd.C (Kd.int .i64) w A0 l0.length l0) (hc0:l0.length≤c0) (h:slices_Index_int_int.f k l0 a1 = some r) :
  Calls Try.prog 42 #[.slice A0 l0.length c0,.int .i64 a1] w fun e w'=>e = .returned (.int .i64 r)∧Drawn0 w w':=by
 have HR0:=Aside0.mk hr0
 have HC0:=Aside0.mk hc0
 clear hr0 hc0
 have H:(slices_Index_int_int.l0 k l0 a1 (l0.length:Int) 0) = some r:=h
 clear h
 have H':=Aside0.mk H
 clear H
 go_enter Try.func42,Try.ntmps42
 go_wp2
 go_loopg [8] k (fun kq v8 w'=>∃ (x8_1:Int),v8 = .int .i64 x8_1∧Aside0 (slices_Index_int_int.l0 kq l0 a1 (l0.length:Int) x8_1 = some r)∧Aside0 (kq≤k)∧Drawn0 w w')
 case atStart=>exact ⟨(0),(by first|rfl|(simp;done)|(simp [*];done)),H',⟨Nat.le_refl _⟩,by repeat (first|exact Drawn0.refl _|apply Drawn0.step)⟩
 case round =>
  clear H'
  try clear p2
  obtain ⟨x8_1,rfl,HA,HK1,⟨m1,rfl⟩⟩:=hrel
  cases gk with
  | zero=>exact absurd HA.out (by simp [slices_Index_int_int.l0])
  | succ k1 =>
   have H:=HA.out
   clear HA
   simp only [slices_Index_int_int.l0] at H
   by_cases c3:x8_1 < (l0.length:Int)
   ·rw [if_pos c3] at H
    have c3b0:decide (x8_1 < (l0.length:Int)) = true:=decide_eq_true c3
    clear c3
    by_cases c4:0≤x8_1
    ·rw [if_pos c4] at H
     have c4b0:decide (0≤x8_1) = true:=decide_eq_true c4
     clear c4
     by_cases c5:x8_1 < (l0.length:Int)
     ·rw [if_pos c5] at H
      have c5b0:decide (x8_1 < (l0.length:Int)) = true:=decide_eq_true c5
      clear c5
      by_cases c6:a1 = (rd l0 x8_1)
      ·rw [if_pos c6] at H
       have c6b0:(a1 == (rd l0 x8_1)) = true:=beq_iff_eq.mpr c6
       have c6b1:(a1 != (rd l0 x8_1)) = false:=bne_eq_false_iff_eq.mpr c6
       clear c6
       obtain rfl:=Option.some.inj H
       have p101:0≤(x8_1:Int):=of_decide_eq_true (by first|(with_reducible assumption)|assumption)
       have q101:x8_1 < (l0.length:Int):=of_decide_eq_true (by first|(with_reducible assumption)|assumption)
       obtain ⟨ad101,e101,hx101_0⟩:=Kd.at_int HR0.out x8_1 p101 q101
       cases e101
       replace p101:=eq_true p101
       replace q101:=eq_true q101
       go_wp2
       go_ret
       exact ⟨by first|rfl|(simp;done)|(simp [*];done),by repeat (first|exact Drawn0.refl _|apply Drawn0.step)⟩
      ·rw [if_neg c6] at H
       have c6b0:(a1 == (rd l0 x8_1)) = false:=beq_eq_false_iff_ne.mpr c6
       have c6b1:(a1 != (rd l0 x8_1)) = true:=bne_iff_ne.mpr c6
       have H':=Aside0.mk H
       clear H
       have p101:0≤(x8_1:Int):=of_decide_eq_true (by first|(with_reducible assumption)|assumption)
       have q101:x8_1 < (l0.length:Int):=of_decide_eq_true (by first|(with_reducible assumption)|assumption)
       obtain ⟨ad101,e101,hx101_0⟩:=Kd.at_int HR0.out x8_1 p101 q101
       cases e101
       replace p101:=eq_true p101
       replace q101:=eq_true q101
       go_wp2
       go_roundg k1
       case measure=>have:=HK1.out;omega
       case rel=>exact ⟨(wrap64 (x8_1 + 1)),(by first|rfl|(simp;done)|(simp [*];done)),H',⟨by have:=HK1.out;omega⟩,by repeat (first|exact Drawn0.refl _|apply Drawn0.step)⟩
     ·rw [if_neg c5] at H
      exact absurd H (by simp)
    ·rw [if_neg c4] at H
     exact absurd H (by simp)
   ·rw [if_neg c3] at H
    have c3b0:decide (x8_1 < (l0.length:Int)) = false:=decide_eq_false c3
    clear c3
    obtain rfl:=Option.some.inj H
    go_wp2
    go_ret
    exact ⟨by first|rfl|(simp;done)|(simp [*];done),by repeat (first|exact Drawn0.refl _|apply Drawn0.step)⟩
def slices_Contains_int_int.f (k:Nat) (l0:List Int) (a1:Int):Option (Bool):=(slices_Index_int_int.f k l0 a1).bind fun t102=>(some (decide (t102 ≥ 0)))
theorem slices_Contains_int_int.mono:∀ a0 a1 k,LeO (slices_Contains_int_int.f k a0 a1) (slices_Contains_int_int.f (k + 1) a0 a1):=by
 intro a0 a1 k
 unfold slices_Contains_int_int.f
 repeat' first
   | (with_reducible exact slices_Index_int_int.mono _ _ _)
   | (with_reducible exact LeO.refl _)
   | (with_reducible exact LeO.none _)
   | (with_reducible refine LeO.ite ?_ ?_)
   | (with_reducible refine LeO.bind ?_ (fun _=>?_))
   | exact slices_Index_int_int.mono _ _ _
   | exact LeO.none _
   | refine LeO.ite ?_ ?_
   | refine LeO.bind ?_ (fun _=>?_)
set_option maxHeartbeats 8000000 in
set_option maxRecDepth 100000 in
theorem slices_Contains_int_int.calls (k:Nat) (A0:Option Addr) (c0:Nat) (l0:List Int) (a1:Int) (r:Bool) (w:World) (hr0:Kd.C (Kd.int .i64) w A0 l0.length l0) (hc0:l0.length≤c0) (h:slices_Contains_int_int.f k l0 a1 = some r) :
  Calls Try.prog 37 #[.slice A0 l0.length c0,.int .i64 a1] w fun e w'=>e = .returned (.bool r)∧Drawn0 w w':=by
 have HR0:=Aside0.mk hr0
 have HC0:=Aside0.mk hc0
 clear hr0 hc0
 have H:((slices_Index_int_int.f k l0 a1).bind fun t102=>(some (decide (t102 ≥ 0)))) = some r:=h
 clear h
 replace H:=Option.bind_eq_some_iff.mp H
 obtain ⟨t102,A30,H⟩:=H
 replace H:(some (decide (t102 ≥ 0))) = some r:=H
 have A3:=Aside0.mk A30
 clear A30
 obtain rfl:=Option.some.inj H
 go_enter Try.func37,Try.ntmps37
 go_wp2_with (first|((with_reducible refine gate_callee (f:=42) rfl ?_);refine goesL_ (some 7) rfl rfl Try.func42 (by kernel_rfl) rfl #[.slice A0 l0.length c0,.int .i64 a1] rfl (by (try simp only [List.map_toArray,List.map_cons,List.map_nil]);first|done|rfl|(simp only [List.length_drop,List.length_take];rfl)) ?_;(with_reducible refine (slices_Index_int_int.calls k _ _ l0 a1 t102 _ ?side1 ?side2 A3.out).mono ?_);(case side1=>repeat (first|exact HR0.out|(with_reducible refine Kd.C_alloc ?_ _)|(with_reducible refine Kd.C_drewN ?_ _)|(with_reducible refine Kd.C_drew ?_)));(case side2=>exact HC0.out);rintro e w' ⟨rfl,⟨nd,rfl⟩⟩;refine ⟨_,rfl,?_⟩))
 go_ret
 exact ⟨by first|rfl|(simp;done)|(simp [*];done),by repeat (first|exact Drawn0.refl _|apply Drawn0.step)⟩
def fidx {α:Type} (p:α→Bool):List α→Nat→Int
 | [],_=>-1
 | x :: xs,i=>if p x then (i:Int) else fidx p xs (i + 1)
theorem fidx_miss {α:Type} (p:α→Bool) (xs:List α) (i:Nat) (h:∀ x ∈ xs,p x = false):fidx p xs i = -1:=by
 induction xs generalizing i with
 | nil=>rfl
 | cons x xs ih =>
  unfold fidx
  rw [if_neg (by rw [h x (by simp)];simp)]
  exact ih (i + 1) (fun y hy=>h y (by simp [hy]))
theorem fidx_hit {α:Type} (p:α→Bool) (xs:List α) (i k:Nat) (y:α) (hy:xs[k]? = some y) (hp:p y = true) (h:∀ j z,j < k→xs[j]? = some z→p z = false):fidx p xs i = ((i + k:Nat):Int):=by
 induction xs generalizing i k with
 | nil=>simp at hy
 | cons x xs ih =>
  unfold fidx
  cases k with
  | zero =>
   have:x = y:=by simpa using hy
   subst this
   rw [if_pos hp]
   rfl
  | succ k =>
   rw [if_neg (by rw [h 0 x (by omega) (by simp)];simp)]
   rw [ih (i + 1) k (by simpa using hy) (fun j z hj hz=>h (j + 1) z (by omega) (by simpa using hz))]
   congr 1
   omega
theorem fidx_lo {α:Type} (p:α→Bool) (xs:List α) (i:Nat):-1≤fidx p xs i:=by
 induction xs generalizing i with
 | nil=>unfold fidx;omega
 | cons x xs ih =>
  unfold fidx
  split
  ·omega
  ·exact ih _
theorem fidx_any {α:Type} (p:α→Bool) (xs:List α) (i:Nat):xs.any p = decide (0≤fidx p xs i):=by
 induction xs generalizing i with
 | nil=>rfl
 | cons x xs ih =>
  unfold fidx
  by_cases hx:p x = true
  ·rw [if_pos hx,List.any_cons,hx]
   simp
  ·rw [if_neg hx,List.any_cons,← ih (i + 1)]
   simp [hx]
def PredW {α:Type} (P:Program) (g:Nat) (lb:Array Value) (enc:α→Value) (p:α→Bool) (w:World):Prop :=
 ∀ (W:World) (x:α),Below w.heap.size w W→Calls P g (#[enc x] ++ lb) W fun e w'=>e = .returned (.bool (p x))∧Below W.heap.size W w'
def enc48 (x:S48):Value:=.agg #[.int .i64 x.f0,.int .i64 x.f1,.int .i64 x.f2,.int .i64 x.f3,.string x.f4.f0,.string x.f4.f1,.string x.f4.f2]
theorem rd48_get (xs:List S48) (k:Nat) (h:k < xs.length):xs[k]? = some (rd_T48 xs k):=by
 unfold rd_T48
 rw [List.getD_eq_getElem?_getD,Int.toNat_natCast,List.getElem?_eq_getElem h]
 rfl
theorem rd_get (xs:List Int) (k:Nat) (h:k < xs.length):xs[k]? = some (rdOf 0 xs k):=by
 show xs[k]? = some (xs.getD (k:Int).toNat 0)
 rw [List.getD_eq_getElem?_getD,Int.toNat_natCast,List.getElem?_eq_getElem h]
 rfl
theorem int_at {w:World} {A:Option Addr} {n:Nat} {xs:List Int} (h:Kd.C (Kd.int .i64) w A n xs) (k:Nat) (h1:(k:Int) < n):∃ ad,A = some ad∧w.cell? (ad.add k) = some (.int .i64 (rdOf 0 xs k)):=by
 obtain ⟨ad,e,hc⟩:=(Kd.reads_of_C (enc:=Value.int .i64) (d:=(0:Int)) (h1:=fun _=>rfl) h).at_ (k:Int) (by omega) h1
 exact ⟨ad,e,by simpa using hc⟩
set_option maxHeartbeats 1000000 in
theorem idx77 (p:S48→Bool) (g:Nat) (lb:Array Value) (eg:∀ args w,(callFunc g args).run Try.prog w = .ok (.enter g args) w) (A:Option Addr) (c:Nat) (xs:List S48) (w:World)
  (hr:Kd.C k48 w A xs.length xs) (hp:PredW Try.prog g lb enc48 p w) :
  Calls Try.prog 77 #[.slice A xs.length c,.func (.func g) #[] lb] w fun e w'=>e = .returned (.int .i64 (fidx p xs 0))∧Below w.heap.size w w':=by
 have hmax:=hr.2.1
 have HR:=Aside0.mk hr
 have HP:=Aside0.mk hp
 clear hr hp
 go_enter Try.func77,Try.ntmps77
 go_wp2
 go_loopg [5,8] xs.length (fun gg _ s8 wr=>∃ kk:Nat,kk≤xs.length∧xs.length - kk≤gg∧s8 = .int .i64 kk∧Aside0 (Below w.heap.size w wr)∧Aside0 (∀ j z,j < kk→xs[j]? = some z→p z = false))
 case atStart=>exact ⟨0,Nat.zero_le _,by omega,rfl,⟨Below.refl _ w⟩,⟨fun j z hj=>absurd hj (Nat.not_lt_zero _)⟩⟩
 case round =>
  obtain ⟨kk,hkk,hg,rfl,BW,AF⟩:=hrel
  by_cases hlt:kk < xs.length
  ·have hltz:(kk:Int) < (xs.length:Int):=by omega
   obtain ⟨ad,e,h0,h1,h2,h3,h4,h5,h6⟩:=at_T48 (Kd.C_below HR.out BW.out) kk (by omega) hltz
   cases e
   simp only [Int.toNat_natCast] at h0 h1 h2 h3 h4 h5 h6
   have hcall:=HP.out wr (rd_T48 xs kk) BW.out
   try unfold enc48 at hcall
   have hget:=rd48_get xs kk hlt
   have HG:=Aside0.mk hget
   clear hget
   generalize rd_T48 xs (kk:Int) = y at h0 h1 h2 h3 h4 h5 h6 hcall HG
   cases hq:p y with
   | true =>
    have HQ:=Aside0.mk hq
    rw [hq] at hcall
    clear hq
    go_wp2_with fail
    refine hcall.mono ?_
    clear hcall
    rintro e w' ⟨rfl,hb'⟩
    have HB:=Aside0.mk (below_then BW.out BW.out.size hb')
    clear hb'
    go_wp2_with fail
    go_ret
    refine ⟨?_,HB.out⟩
    rw [fidx_hit p xs 0 kk _ HG.out HQ.out AF.out,Nat.zero_add]
    rfl
   | false =>
    have HQ:=Aside0.mk hq
    rw [hq] at hcall
    clear hq
    go_wp2_with fail
    refine hcall.mono ?_
    clear hcall
    rintro e w' ⟨rfl,hb'⟩
    have HB:=Aside0.mk (below_then BW.out BW.out.size hb')
    clear hb'
    go_wp2_with fail
    go_roundg (xs.length - (kk + 1))
    case measure=>omega
    case rel =>
     refine ⟨kk + 1,by omega,by omega,by go_num,HB,⟨fun j z hj hz=>?_⟩⟩
     by_cases e:j = kk
     ·subst e
      rw [HG.out] at hz
      injection hz with hz
      rw [← hz]
      exact HQ.out
     ·exact AF.out j z (by omega) hz
  ·have hltz:¬ (kk:Int) < (xs.length:Int):=by omega
   go_wp2
   go_ret
   refine ⟨?_,BW.out⟩
   have hf:fidx p xs 0 = -1:=fidx_miss p xs 0 (fun x hx=>by
    obtain ⟨j,hj⟩:=List.getElem?_of_mem hx
    have hjl:=(List.getElem?_eq_some_iff.1 hj).1
    exact AF.out j x (by omega) hj)
   rw [hf]
   rfl
set_option maxHeartbeats 1000000 in
theorem idx69 (p:Int→Bool) (g:Nat) (lb:Array Value) (eg:∀ args w,(callFunc g args).run Try.prog w = .ok (.enter g args) w) (A:Option Addr) (c:Nat) (xs:List Int) (w:World)
  (hr:Kd.C (Kd.int .i64) w A xs.length xs) (hp:PredW Try.prog g lb (Value.int .i64) p w) :
  Calls Try.prog 69 #[.slice A xs.length c,.func (.func g) #[] lb] w fun e w'=>e = .returned (.int .i64 (fidx p xs 0))∧Below w.heap.size w w':=by
 have hmax:=hr.2.1
 have HR:=Aside0.mk hr
 have HP:=Aside0.mk hp
 clear hr hp
 go_enter Try.func69,Try.ntmps69
 go_wp2
 go_loopg [5,8] xs.length (fun gg _ s8 wr=>∃ kk:Nat,kk≤xs.length∧xs.length - kk≤gg∧s8 = .int .i64 kk∧Aside0 (Below w.heap.size w wr)∧Aside0 (∀ j z,j < kk→xs[j]? = some z→p z = false))
 case atStart=>exact ⟨0,Nat.zero_le _,by omega,rfl,⟨Below.refl _ w⟩,⟨fun j z hj=>absurd hj (Nat.not_lt_zero _)⟩⟩
 case round =>
  obtain ⟨kk,hkk,hg,rfl,BW,AF⟩:=hrel
  by_cases hlt:kk < xs.length
  ·have hltz:(kk:Int) < (xs.length:Int):=by omega
   obtain ⟨ad,e,h0⟩:=int_at (Kd.C_below HR.out BW.out) kk hltz
   cases e
   have hcall:=HP.out wr (rdOf 0 xs kk) BW.out
   try unfold enc48 at hcall
   have hget:=rd_get xs kk hlt
   have HG:=Aside0.mk hget
   clear hget
   generalize rdOf 0 xs (kk:Int) = y at h0 hcall HG
   cases hq:p y with
   | true =>
    have HQ:=Aside0.mk hq
    rw [hq] at hcall
    clear hq
    go_wp2_with fail
    refine hcall.mono ?_
    clear hcall
    rintro e w' ⟨rfl,hb'⟩
    have HB:=Aside0.mk (below_then BW.out BW.out.size hb')
    clear hb'
    go_wp2_with fail
    go_ret
    refine ⟨?_,HB.out⟩
    rw [fidx_hit p xs 0 kk _ HG.out HQ.out AF.out,Nat.zero_add]
    rfl
   | false =>
    have HQ:=Aside0.mk hq
    rw [hq] at hcall
    clear hq
    go_wp2_with fail
    refine hcall.mono ?_
    clear hcall
    rintro e w' ⟨rfl,hb'⟩
    have HB:=Aside0.mk (below_then BW.out BW.out.size hb')
    clear hb'
    go_wp2_with fail
    go_roundg (xs.length - (kk + 1))
    case measure=>omega
    case rel =>
     refine ⟨kk + 1,by omega,by omega,by go_num,HB,⟨fun j z hj hz=>?_⟩⟩
     by_cases e:j = kk
     ·subst e
      rw [HG.out] at hz
      injection hz with hz
      rw [← hz]
      exact HQ.out
     ·exact AF.out j z (by omega) hz
  ·have hltz:¬ (kk:Int) < (xs.length:Int):=by omega
   go_wp2
   go_ret
   refine ⟨?_,BW.out⟩
   have hf:fidx p xs 0 = -1:=fidx_miss p xs 0 (fun x hx=>by
    obtain ⟨j,hj⟩:=List.getElem?_of_mem hx
    have hjl:=(List.getElem?_eq_some_iff.1 hj).1
    exact AF.out j x (by omega) hj)
   rw [hf]
   rfl
theorem contains35 (p:Int→Bool) (g:Nat) (lb:Array Value) (eg:∀ args w,(callFunc g args).run Try.prog w = .ok (.enter g args) w) (A:Option Addr) (c:Nat) (xs:List Int) (w:World)
  (hr:Kd.C (Kd.int .i64) w A xs.length xs) (hp:PredW Try.prog g lb (Value.int .i64) p w) :
  Calls Try.prog 35 #[.slice A xs.length c,.func (.func g) #[] lb] w fun e w'=>e = .returned (.bool (xs.any p))∧Below w.heap.size w w':=by
 have hcon:=idx69 p g lb eg A c xs w hr hp
 rw [fidx_any p xs 0]
 generalize fidx p xs 0 = q at hcon ⊢
 clear eg hr hp
 go_enter Try.func35,Try.ntmps35
 go_wp2_with fail
 refine hcon.mono ?_
 clear hcon
 rintro e w' ⟨rfl,hb'⟩
 go_wp2_with fail
 go_ret
 exact ⟨rfl,hb'⟩
def codeB (n:Int):Bool:=decide (0≤n) && decide (n≤9999)
def okO (o:S48):Bool:=decide (1≤o.f0∧o.f0≤9999∧0≤o.f1∧o.f1≤9999∧0≤o.f2∧o.f2≤9999∧o.f1≠o.f2)
def incB (l:List Int):Bool:=decide (l.Pairwise (· < ·))
def preB (l:List S48):Bool:=l.all okO && incB (l.map S48.f0)
def rightB (l:List S48):Bool:=preB l && decide (l.length≤64)
def startB (l:List Int):Bool:=decide (l.length≤64) && (incB l && l.all codeB)
theorem incB_iff {l:List Int}:incB l = true ↔ l.Pairwise (· < ·):=by unfold incB;exact decide_eq_true_iff
theorem incB_snoc (l:List Int) (x:Int):incB (l ++ [x]) = true ↔ incB l = true∧∀ y,l.getLast? = some y→y < x:=by
 rw [incB_iff,incB_iff,List.pairwise_append]
 constructor
 ·rintro ⟨h1,_,h2⟩
  exact ⟨h1,fun y hy=>h2 y (List.mem_of_getLast? hy) x (by simp)⟩
 ·rintro ⟨h1,h2⟩
  refine ⟨h1,by simp,fun a ha b hb=>?_⟩
  have hb':b = x:=by simpa using hb
  subst hb'
  rcases List.eq_nil_or_concat l with rfl|⟨l',z,rfl⟩
  ·simp at ha
  ·rw [List.concat_eq_append] at *
   have hz:=h2 z (by simp)
   rw [List.pairwise_append] at h1
   rcases List.mem_append.1 ha with h|h
   ·have:=h1.2.2 a h z (by simp);omega
   ·have:a = z:=by simpa using h
    omega
theorem take_snoc_of {α:Type} {l:List α} {k:Nat} {x:α} (h:l[k]? = some x):l.take (k + 1) = l.take k ++ [x]:=by
 rw [List.take_add_one,h];rfl
theorem last_take {α:Type} {l:List α} {k:Nat} {x:α} (h:l[k]? = some x):(l.take (k + 1)).getLast? = some x:=by
 rw [take_snoc_of h];simp
theorem preB_step {l:List S48} {k:Nat} {x:S48} (h:l[k]? = some x) (hp:preB (l.take k) = true) :
  preB (l.take (k + 1)) = true ↔ okO x = true∧∀ y,0 < k→l[k - 1]? = some y→y.f0 < x.f0:=by
 rw [take_snoc_of h]
 unfold preB at hp ⊢
 rw [Bool.and_eq_true] at hp
 rw [List.all_append,hp.1,Bool.true_and]
 simp only [List.all_cons,List.all_nil,Bool.and_true]
 rw [Bool.and_eq_true,List.map_append]
 simp only [List.map_cons,List.map_nil]
 rw [incB_snoc]
 constructor
 ·rintro ⟨h0,_,h2⟩
  refine ⟨h0,fun y hk hy=>h2 y.f0 ?_⟩
  obtain ⟨j,rfl⟩:∃ j,k = j + 1:=⟨k - 1,by omega⟩
  rw [Nat.add_sub_cancel] at hy
  rw [List.getLast?_map,last_take hy]
  rfl
 ·rintro ⟨h0,h2⟩
  refine ⟨h0,hp.2,fun y hy=>?_⟩
  rw [List.getLast?_map] at hy
  cases k with
  | zero=>simp at hy
  | succ k =>
   have hlt:=(List.getElem?_eq_some_iff.1 h).1
   have hz:l[k]? = some l[k]:=List.getElem?_eq_getElem (by omega)
   rw [last_take hz] at hy
   have e:l[k].f0 = y:=by simpa using hy
   rw [← e]
   exact h2 _ (by omega) (by simp)
theorem preB_take {l:List S48} {k:Nat} (h:preB l = true):preB (l.take k) = true:=by
 unfold preB at h ⊢
 rw [Bool.and_eq_true] at h ⊢
 refine ⟨List.all_eq_true.2 fun x hx=>List.all_eq_true.1 h.1 x (List.mem_of_mem_take hx),?_⟩
 rw [incB_iff] at h ⊢
 rw [List.map_take]
 exact h.2.sublist (List.take_sublist _ _)
theorem preB_no {l:List S48} {k:Nat} (h:preB (l.take k) = false):preB l = false:=by
 cases e:preB l with
 | false=>rfl
 | true=>rw [preB_take e] at h;cases h
theorem preB_bad {l:List S48} {k:Nat} {x:S48} (h:l[k]? = some x) (hp:preB (l.take k) = true) (hb:¬ (1≤x.f0∧x.f0≤9999∧0≤x.f1∧x.f1≤9999∧0≤x.f2∧x.f2≤9999∧x.f1≠x.f2)):preB l = false:=by
 refine preB_no (k:=k + 1) (Bool.eq_false_iff.2 fun e=>?_)
 have h1:=((preB_step h hp).1 e).1
 unfold okO at h1
 exact hb (of_decide_eq_true h1)
theorem preB_bad2 {l:List S48} {k:Nat} {x y:S48} (h:l[k]? = some x) (hp:preB (l.take k) = true) (hk:0 < k) (hy:l[k - 1]? = some y) (hb:x.f0≤y.f0):preB l = false:=by
 refine preB_no (k:=k + 1) (Bool.eq_false_iff.2 fun e=>?_)
 have:=((preB_step h hp).1 e).2 y hk hy
 omega
theorem preB_ok {l:List S48} {k:Nat} {x:S48} (h:l[k]? = some x) (hp:preB (l.take k) = true) (hb:1≤x.f0∧x.f0≤9999∧0≤x.f1∧x.f1≤9999∧0≤x.f2∧x.f2≤9999∧x.f1≠x.f2) (h2:∀ y,0 < k→l[k - 1]? = some y→y.f0 < x.f0):preB (l.take (k + 1)) = true:=by
 refine (preB_step h hp).2 ⟨?_,h2⟩
 unfold okO
 exact decide_eq_true hb
theorem code92 (n:Int) (w:World):Calls Try.prog 92 #[.int .i64 n] w fun e w'=>e = .returned (.bool (codeB n))∧w' = w:=by
 unfold codeB
 go_enter Try.func92,Try.ntmps92
 go_wp2
 all_goals (go_ret;exact ⟨by simp_all<;>omega,rfl⟩)
set_option maxHeartbeats 4000000 in
set_option maxRecDepth 100000 in
theorem right74 (A:Option Addr) (c:Nat) (xs:List S48) (w:World) (hr:Kd.C k48 w A xs.length xs) :
  Calls Try.prog 74 #[.slice A xs.length c] w fun e w'=>e = .returned (.bool (rightB xs))∧Below w.heap.size w w':=by
 have hmax:=hr.2.1
 have HR:=Aside0.mk hr
 clear hr
 go_enter Try.func74,Try.ntmps74
 go_wp2
 go_loopg [3,4,7] xs.length (fun gg s3 s4 s7 wr=>∃ kk:Nat,kk≤xs.length∧xs.length - kk≤gg∧s7 = .int .i64 kk∧Aside0 (Below w.heap.size w wr)∧Aside0 (preB (xs.take kk) = true))
 case atStart=>exact ⟨0,Nat.zero_le _,by omega,rfl,⟨Below.refl _ w⟩,⟨by rw [List.take_zero];decide⟩⟩
 case round =>
  obtain ⟨kk,hkk,hg,rfl,HB,HP⟩:=hrel
  by_cases hlt:kk < xs.length
  ·have hltz:(kk:Int) < (xs.length:Int):=by omega
   have hmk:(kk:Int) < 9223372036854775807:=by omega
   obtain ⟨ad,e,h0,h1,h2,h3,h4,h5,h6⟩:=at_T48 (Kd.C_below HR.out HB.out) kk (by omega) hltz
   cases e
   simp only [Int.toNat_natCast] at h0 h1 h2 h3 h4 h5 h6
   have HG:=Aside0.mk (rd48_get xs kk hlt)
   generalize rd_T48 xs (kk:Int) = x at h0 h1 h2 h3 h4 h5 h6 HG
   go_wp2_with fail
   generalize hw6:wr.alloc (.cells #[.int .i64 x.f0,.int .i64 x.f1,.int .i64 x.f2,.int .i64 x.f3,.string x.f4.f0,.string x.f4.f1,.string x.f4.f2] 48) = w6
   have hb6:w6.heap[wr.heap.size]? = some (.cells #[.int .i64 x.f0,.int .i64 x.f1,.int .i64 x.f2,.int .i64 x.f3,.string x.f4.f0,.string x.f4.f1,.string x.f4.f2] 48 (0,0)):=by rw [← hw6];exact blk_new _ _
   have hBl:Below wr.heap.size wr w6:=by rw [← hw6];exact below_alloc (Below.refl _ _) _
   replace HB:=Aside0.mk (below_then HB.out HB.out.size hBl)
   have k0:w6.cell? ⟨wr.heap.size,0,none⟩ = some (.int .i64 x.f0):=blk_cell hb6 0
   have k1:w6.cell? ⟨wr.heap.size,1,none⟩ = some (.int .i64 x.f1):=blk_cell hb6 1
   have k2:w6.cell? ⟨wr.heap.size,2,none⟩ = some (.int .i64 x.f2):=blk_cell hb6 2
   clear hb6 hBl hw6 h0 h1 h2 h3 h4 h5 h6
   by_cases hca:x.f0 < 1
   ·have hcad:=decide_eq_true hca
    go_quiet ((go_at_call 92;exact Calls.quiet_of_same (code92 _ _)))
    go_wp2_with fail
    go_ret
    refine ⟨?_,HB.out.trans (pw_below_drewN (Below.refl _ _) _)⟩
    rw [show rightB xs = false from by unfold rightB;rw [preB_bad HG.out HP.out (by omega),Bool.false_and]]
    first|rfl|simp
   have hcad:=decide_eq_false hca
   by_cases hcb:9999 < x.f0
   ·have hcbd:=decide_eq_true hcb
    go_quiet ((go_at_call 92;exact Calls.quiet_of_same (code92 _ _)))
    go_wp2_with fail
    go_ret
    refine ⟨?_,HB.out.trans (pw_below_drewN (Below.refl _ _) _)⟩
    rw [show rightB xs = false from by unfold rightB;rw [preB_bad HG.out HP.out (by omega),Bool.false_and]]
    first|rfl|simp
   have hcbd:=decide_eq_false hcb
   cases hcc:codeB x.f1 with
   | false =>
    have HC1:=Aside0.mk hcc
    go_quiet ((go_at_call 92;exact Calls.quiet_of_same (code92 _ _)))
    go_wp2_with fail
    go_ret
    refine ⟨?_,HB.out.trans (pw_below_drewN (Below.refl _ _) _)⟩
    rw [show rightB xs = false from by unfold rightB;rw [preB_bad HG.out HP.out (by unfold codeB at HC1;have h:=HC1.out;simp only [Bool.and_eq_false_iff,decide_eq_false_iff_not] at h;omega),Bool.false_and]]
    first|rfl|simp
   | true =>
   have HC1:=Aside0.mk hcc
   cases hcd:codeB x.f2 with
   | false =>
    have HC2:=Aside0.mk hcd
    go_quiet ((go_at_call 92;exact Calls.quiet_of_same (code92 _ _)))
    go_wp2_with fail
    go_ret
    refine ⟨?_,HB.out.trans (pw_below_drewN (Below.refl _ _) _)⟩
    rw [show rightB xs = false from by unfold rightB;rw [preB_bad HG.out HP.out (by unfold codeB at HC2;have h:=HC2.out;simp only [Bool.and_eq_false_iff,decide_eq_false_iff_not] at h;omega),Bool.false_and]]
    first|rfl|simp
   | true =>
   have HC2:=Aside0.mk hcd
   by_cases hce:x.f1 = x.f2
   ·have hced:(x.f1 == x.f2) = true:=by rw [beq_iff_eq];exact hce
    have HE:=Aside0.mk hce
    clear hce
    go_quiet ((go_at_call 92;exact Calls.quiet_of_same (code92 _ _)))
    go_wp2_with fail
    go_ret
    refine ⟨?_,HB.out.trans (pw_below_drewN (Below.refl _ _) _)⟩
    rw [show rightB xs = false from by unfold rightB;rw [preB_bad HG.out HP.out (by have:=HE.out;omega),Bool.false_and]]
    first|rfl|simp
   have hced:(x.f1 == x.f2) = false:=by rw [beq_eq_false_iff_ne];exact hce
   by_cases hk0:0 < kk
   case neg =>
    have hk0z:¬ (0:Int) < (kk:Int):=by omega
    have hdk:decide (0 < kk) = false:=decide_eq_false hk0
    have HN:=Aside0.mk (show 1≤x.f0∧x.f0≤9999∧0≤x.f1∧x.f1≤9999∧0≤x.f2∧x.f2≤9999∧x.f1≠x.f2 from by clear hdk;have h1:=HC1.out;have h2:=HC2.out;unfold codeB at h1 h2;simp only [Bool.and_eq_true,decide_eq_true_eq] at h1 h2;refine ⟨?_,?_,?_,?_,?_,?_,?_⟩<;>omega)
    go_quiet ((go_at_call 92;exact Calls.quiet_of_same (code92 _ _)))
    go_wp2_with fail
    go_roundg (xs.length - (kk + 1))
    case measure=>omega
    case rel =>
     exact ⟨kk + 1,by omega,by omega,by go_num,⟨HB.out.trans (pw_below_drewN (Below.refl _ _) _)⟩,⟨preB_ok HG.out HP.out HN.out (fun z hz0 hz=>absurd hz0 (by omega))⟩⟩
   have hk0z:(0:Int) < (kk:Int):=by omega
   have hdk:decide (0 < kk) = true:=decide_eq_true hk0
   obtain ⟨ji,hji⟩:∃ ji:Int,ji = (kk:Int) - 1:=⟨_,rfl⟩
   have hwr0:IntKind.i64.wrap ((kk:Int) - 1) = ji:=by rw [hji];exact IntWalk.i64_in _ (by omega)
   have hjp:0≤ji:=by omega
   have hjq:ji < (xs.length:Int):=by omega
   have HJ:=Aside0.mk (show ji.toNat = kk - 1 by omega)
   obtain ⟨ad2,e2,g0,_⟩:=at_T48 (Kd.C_below HR.out HB.out) ji hjp hjq
   cases e2
   have HY:=Aside0.mk (rd48_get xs ji.toNat (by omega))
   rw [show ((ji.toNat:Nat):Int) = ji from by omega] at HY
   generalize rd_T48 xs ji = y at g0 HY
   have HK0:=Aside0.mk hk0
   clear hji hk0
   have hjpd:decide (0≤ji) = true:=decide_eq_true hjp
   have hjqd:decide (ji < (xs.length:Int)) = true:=decide_eq_true hjq
   replace hjp:=eq_true hjp
   replace hjq:=eq_true hjq
   by_cases hcp:x.f0≤y.f0
   ·have hcd:=decide_eq_true hcp
    go_quiet ((go_at_call 92;exact Calls.quiet_of_same (code92 _ _)))
    go_wp2_with fail
    go_ret
    refine ⟨?_,HB.out.trans (pw_below_drewN (Below.refl _ _) _)⟩
    rw [show rightB xs = false from by unfold rightB;rw [preB_bad2 HG.out HP.out HK0.out (by rw [← HJ.out];exact HY.out) hcp,Bool.false_and]]
    first|rfl|simp
   have hcd:=decide_eq_false hcp
   have HN:=Aside0.mk (show 1≤x.f0∧x.f0≤9999∧0≤x.f1∧x.f1≤9999∧0≤x.f2∧x.f2≤9999∧x.f1≠x.f2 from by clear hwr0 hjp hjq hjpd hjqd hdk;have h1:=HC1.out;have h2:=HC2.out;unfold codeB at h1 h2;simp only [Bool.and_eq_true,decide_eq_true_eq] at h1 h2;refine ⟨?_,?_,?_,?_,?_,?_,?_⟩<;>omega)
   have HV:=Aside0.mk (show y.f0 < x.f0 from Int.not_le.1 hcp)
   go_quiet ((go_at_call 92;exact Calls.quiet_of_same (code92 _ _)))
   go_wp2_with fail
   go_roundg (xs.length - (kk + 1))
   case measure=>omega
   case rel =>
    exact ⟨kk + 1,by omega,by omega,by go_num,⟨HB.out.trans (pw_below_drewN (Below.refl _ _) _)⟩,⟨preB_ok HG.out HP.out HN.out (fun z hz0 hz=>by have h:=HY.out.symm.trans ((congrArg (fun i=>xs[i]?) HJ.out).trans hz);have e:=Option.some.inj h;rw [← e];exact HV.out)⟩⟩
  ·have hltz:¬ (kk:Int) < (xs.length:Int):=by omega
   replace HP:=Aside0.mk (show preB xs = true by have h:=HP.out;rwa [List.take_of_length_le (by omega)] at h)
   go_wp2_with fail
   go_ret
   refine ⟨?_,HB.out⟩
   unfold rightB
   rw [HP.out,Bool.true_and]
   exact congrArg (fun b=>Ending.returned (.bool b)) (decide_eq_decide.2 (by omega))
def connection_increase.l0:Nat→List Int→Int→Int→Option (Bool)
 | 0,_,_,_=>none
 | k + 1,x0,x5,x6=>if x6 < x5 then (if x6 > 0 then (if 0≤x6 then (if x6 < (x0.length:Int) then (if 0≤(wrap64 (x6 - 1)) then (if (wrap64 (x6 - 1)) < (x0.length:Int) then (if (rd x0 x6)≤(rd x0 (wrap64 (x6 - 1))) then (some false) else (connection_increase.l0 k x0 x5 (wrap64 (x6 + 1)))) else (none)) else (none)) else (none)) else (none)) else (connection_increase.l0 k x0 x5 (wrap64 (x6 + 1)))) else (some true)
def connection_increase.f (k:Nat) (l0:List Int):Option (Bool):=connection_increase.l0 k l0 (l0.length:Int) 0
set_option maxHeartbeats 8000000 in
set_option maxRecDepth 100000 in
theorem connection_increase.calls (k:Nat) (A0:Option Addr) (c0:Nat) (l0:List Int) (r:Bool) (w:World) (hr0:Kd.C (Kd.int .i64) w A0 l0.length l0) (hc0:l0.length≤c0) (h:connection_increase.f k l0 = some r) :
  Calls Try.prog 76 #[.slice A0 l0.length c0] w fun e w'=>e = .returned (.bool r)∧Drawn0 w w':=by
 have HR0:=Aside0.mk hr0
 have HC0:=Aside0.mk hc0
 clear hr0 hc0
 have H:(connection_increase.l0 k l0 (l0.length:Int) 0) = some r:=h
 clear h
 have H':=Aside0.mk H
 clear H
 go_enter Try.func76,Try.ntmps76
 go_wp2
 repeat (go_quiet (fail);try go_wp2)
 go_loopg [6] k (fun kq v6 w'=>∃ (x6_1:Int),v6 = .int .i64 x6_1∧Aside0 (connection_increase.l0 kq l0 (l0.length:Int) x6_1 = some r)∧Aside0 (kq≤k)∧Drawn0 w w')
 case atStart=>exact ⟨(0),(by first|rfl|(simp;done)|(simp [*];done)),H',⟨Nat.le_refl _⟩,by repeat (first|exact Drawn0.refl _|apply Drawn0.step)⟩
 case round =>
  clear H'
  obtain ⟨x6_1,rfl,HA,HK1,⟨m1,rfl⟩⟩:=hrel
  cases gk with
  | zero=>exact absurd HA.out (by simp [connection_increase.l0])
  | succ k1 =>
   have H:=HA.out
   clear HA
   simp only [connection_increase.l0] at H
   by_cases c2:x6_1 < (l0.length:Int)
   ·rw [if_pos c2] at H
    have c2b0:decide (x6_1 < (l0.length:Int)) = true:=decide_eq_true c2
    clear c2
    by_cases c3:x6_1 > 0
    ·rw [if_pos c3] at H
     have c3b0:decide (0 < x6_1) = true:=decide_eq_true c3
     clear c3
     by_cases c4:0≤x6_1
     ·rw [if_pos c4] at H
      have c4b0:decide (0≤x6_1) = true:=decide_eq_true c4
      clear c4
      by_cases c5:x6_1 < (l0.length:Int)
      ·rw [if_pos c5] at H
       have c5b0:decide (x6_1 < (l0.length:Int)) = true:=decide_eq_true c5
       clear c5
       obtain ⟨ji6,hji6⟩:∃ j_:Int,(wrap64 (x6_1 - 1)) = j_:=⟨_,rfl⟩
       replace H:(if 0≤(ji6) then (if (ji6) < (l0.length:Int) then (if (rd l0 x6_1)≤(rd l0 (ji6)) then (some false) else (connection_increase.l0 k1 l0 (l0.length:Int) (wrap64 (x6_1 + 1)))) else (none)) else (none)) = some r:=by first|(rw [hji6] at H;exact H)|(simp only [hji6] at H ⊢;exact H)
       have hji6w:(IntKind.i64.wrap (x6_1 - 1)) = ji6:=(i64_w _).trans hji6
       by_cases c7:0≤(ji6)
       ·rw [if_pos c7] at H
        have c7b0:decide (0≤(ji6)) = true:=decide_eq_true c7
        clear c7
        by_cases c8:(ji6) < (l0.length:Int)
        ·rw [if_pos c8] at H
         have c8b0:decide ((ji6) < (l0.length:Int)) = true:=decide_eq_true c8
         clear c8
         by_cases c9:(rd l0 x6_1)≤(rd l0 (ji6))
         ·rw [if_pos c9] at H
          have c9b0:decide ((rd l0 x6_1)≤(rd l0 (ji6))) = true:=decide_eq_true c9
          clear c9
          obtain rfl:=Option.some.inj H
          have p108:0≤(x6_1:Int):=of_decide_eq_true (by first|(with_reducible assumption)|assumption)
          have q108:x6_1 < (l0.length:Int):=of_decide_eq_true (by first|(with_reducible assumption)|assumption)
          obtain ⟨ad108,e108,hx108_0⟩:=Kd.at_int HR0.out x6_1 p108 q108
          cases e108
          replace p108:=eq_true p108
          replace q108:=eq_true q108
          have p109:0≤((ji6):Int):=of_decide_eq_true (by first|(with_reducible assumption)|assumption)
          have q109:(ji6) < (l0.length:Int):=of_decide_eq_true (by first|(with_reducible assumption)|assumption)
          obtain ⟨ad109,e109,hx109_0⟩:=Kd.at_int HR0.out (ji6) p109 q109
          obtain rfl:ad108 = ad109:=(by injection e109)
          replace p109:=eq_true p109
          replace q109:=eq_true q109
          go_wp2
          repeat (go_quiet (fail);try go_wp2)
          go_ret
          exact ⟨by first|rfl|(simp;done)|(simp only [← hji6]<;>(first|rfl|simp))|(simp [*];done),by repeat (first|exact Drawn0.refl _|apply Drawn0.step)⟩
         ·rw [if_neg c9] at H
          have c9b0:decide ((rd l0 x6_1)≤(rd l0 (ji6))) = false:=decide_eq_false c9
          clear c9
          have H':=Aside0.mk H
          clear H
          have p108:0≤(x6_1:Int):=of_decide_eq_true (by first|(with_reducible assumption)|assumption)
          have q108:x6_1 < (l0.length:Int):=of_decide_eq_true (by first|(with_reducible assumption)|assumption)
          obtain ⟨ad108,e108,hx108_0⟩:=Kd.at_int HR0.out x6_1 p108 q108
          cases e108
          replace p108:=eq_true p108
          replace q108:=eq_true q108
          have p109:0≤((ji6):Int):=of_decide_eq_true (by first|(with_reducible assumption)|assumption)
          have q109:(ji6) < (l0.length:Int):=of_decide_eq_true (by first|(with_reducible assumption)|assumption)
          obtain ⟨ad109,e109,hx109_0⟩:=Kd.at_int HR0.out (ji6) p109 q109
          obtain rfl:ad108 = ad109:=(by injection e109)
          replace p109:=eq_true p109
          replace q109:=eq_true q109
          go_wp2
          repeat (go_quiet (fail);try go_wp2)
          go_roundg k1
          case measure=>have:=HK1.out;omega
          case rel=>exact ⟨(wrap64 (x6_1 + 1)),(by first|rfl|(simp;done)|(simp [*];done)),H',⟨by have:=HK1.out;omega⟩,by repeat (first|exact Drawn0.refl _|apply Drawn0.step)⟩
        ·rw [if_neg c8] at H
         exact absurd H (by simp)
       ·rw [if_neg c7] at H
        exact absurd H (by simp)
      ·rw [if_neg c5] at H
       exact absurd H (by simp)
     ·rw [if_neg c4] at H
      exact absurd H (by simp)
    ·rw [if_neg c3] at H
     have c3b0:decide (0 < x6_1) = false:=decide_eq_false c3
     clear c3
     have H':=Aside0.mk H
     clear H
     go_wp2
     repeat (go_quiet (fail);try go_wp2)
     go_roundg k1
     case measure=>have:=HK1.out;omega
     case rel=>exact ⟨(wrap64 (x6_1 + 1)),(by first|rfl|(simp;done)|(simp [*];done)),H',⟨by have:=HK1.out;omega⟩,by repeat (first|exact Drawn0.refl _|apply Drawn0.step)⟩
   ·rw [if_neg c2] at H
    have c2b0:decide (x6_1 < (l0.length:Int)) = false:=decide_eq_false c2
    clear c2
    obtain rfl:=Option.some.inj H
    go_wp2
    repeat (go_quiet (fail);try go_wp2)
    go_ret
    exact ⟨by first|rfl|(simp;done)|(simp [*];done),by repeat (first|exact Drawn0.refl _|apply Drawn0.step)⟩
theorem wi1 {i:Nat} {n:Nat} (h:i < n) (hn:n≤9223372036854775807):wrap64 ((i:Int) + 1) = ((i + 1:Nat):Int):=by unfold wrap64;omega
theorem wd1 {i:Nat} (h0:0 < i) (hn:i≤9223372036854775807):wrap64 ((i:Int) - 1) = ((i - 1:Nat):Int):=by unfold wrap64;omega
theorem rd_nat (l:List Int) (i:Nat) (h:i < l.length):rd l (i:Int) = l[i]:=by
 unfold rd;rw [Int.toNat_natCast,List.getD_eq_getElem?_getD,List.getElem?_eq_getElem h];rfl
theorem incB_take (l:List Int) (i:Nat) (h:i < l.length) (hp:incB (l.take i) = true):incB (l.take (i + 1)) = true ↔ (0 < i→l[i - 1]! < l[i]):=by
 rw [take_snoc_of (List.getElem?_eq_getElem h),incB_snoc]
 constructor
 ·rintro ⟨_,h2⟩ h0
  refine h2 _ ?_
  obtain ⟨j,rfl⟩:∃ j,i = j + 1:=⟨i - 1,by omega⟩
  rw [last_take (List.getElem?_eq_getElem (show j < l.length by omega))]
  simp [getElem!_pos,show j < l.length by omega]
 ·intro h2
  refine ⟨hp,fun y hy=>?_⟩
  cases i with
  | zero=>simp at hy
  | succ j =>
   rw [last_take (List.getElem?_eq_getElem (show j < l.length by omega))] at hy
   injection hy with hy
   have:=h2 (by omega)
   simp [getElem!_pos,show j < l.length by omega] at this
   omega
theorem incB_of_take {l:List Int} (i:Nat) (h:incB (l.take i) = false):incB l = false:=by
 cases e:incB l with
 | false=>rfl
 | true=>rw [incB_iff.2 ((incB_iff.1 e).sublist (List.take_sublist _ _))] at h;cases h
theorem increase_ev (l:List Int) (hl:l.length≤9223372036854775807):∃ k,connection_increase.f k l = some (incB l):=by
 have key:∀ d (i:Nat),l.length - i = d→i≤l.length→incB (l.take i) = true→connection_increase.l0 (d + 1) l (l.length:Int) (i:Int) = some (incB l):=by
  intro d
  induction d with
  | zero =>
   intro i hd hi hp
   simp only [connection_increase.l0]
   rw [if_neg (by omega),← hp,List.take_of_length_le (by omega)]
  | succ d ih =>
   intro i hd hi hp
   have hlt:i < l.length:=by omega
   simp only [connection_increase.l0]
   rw [if_pos (by omega)]
   by_cases h0:0 < i
   ·have hr1:=rd_nat l i hlt
    have hr2:=rd_nat l (i - 1) (by omega)
    rw [if_pos (by omega),if_pos (by omega),if_pos (by omega),wd1 h0 (by omega),if_pos (by omega),if_pos (by omega),hr1,hr2]
    have hst:=incB_take l i hlt hp
    have hb:l[i - 1]! = l[i - 1]:=getElem!_pos l (i - 1) (by omega)
    by_cases hc:l[i]≤l[i - 1]
    ·rw [if_pos hc]
     congr 1
     refine (incB_of_take (i + 1) (Bool.eq_false_iff.2 fun e=>?_)).symm
     have:=hst.1 e h0
     omega
    ·rw [if_neg hc,wi1 hlt hl]
     exact ih (i + 1) (by omega) (by omega) (hst.2 fun _=>by omega)
   ·rw [if_neg (by omega),wi1 hlt hl]
    exact ih (i + 1) (by omega) (by omega) ((incB_take l i hlt hp).2 fun h=>absurd h h0)
 exact ⟨_,key _ 0 rfl (by omega) (by simp [incB])⟩
theorem inc76 (A:Option Addr) (c:Nat) (l:List Int) (w:World) (hr:Kd.C (Kd.int .i64) w A l.length l) (hc:l.length≤c) :
  Calls Try.prog 76 #[.slice A l.length c] w fun e w'=>e = .returned (.bool (incB l))∧∃ n,w' = w.drewN n:=by
 obtain ⟨k,hk⟩:=increase_ev l hr.2.1
 exact (connection_increase.calls k A c l _ w hr hc hk).mono fun _ _ h=>⟨h.1,h.2.out⟩
theorem pred108 (w:World):PredW Try.prog 108 #[] (Value.int .i64) (fun n=>!codeB n) w:=fun W x hb=>by
 show Calls Try.prog 108 #[.int .i64 x] W _
 go_enter Try.func108,Try.ntmps108
 go_wp2_with (go_at_call 92;refine (code92 _ _).mono ?_;rintro e w' ⟨rfl,rfl⟩)
 go_ret
 exact ⟨rfl,Below.refl _ _⟩
theorem start75 (A:Option Addr) (c:Nat) (l:List Int) (w:World) (hr:Kd.C (Kd.int .i64) w A l.length l) (hc:l.length≤c) :
  Calls Try.prog 75 #[.slice A l.length c] w fun e w'=>e = .returned (.bool (startB l))∧Below w.heap.size w w':=by
 have HR:=Aside0.mk hr
 have hmax:=hr.2.1
 have HI:=Aside0.mk (inc76 A c l w hr hc)
 have eg:∀ args w,(callFunc 108 args).run Try.prog w = .ok (.enter 108 args) w:=enters_of Try.func108 (by kernel_rfl) rfl
 have HA:=Aside0.mk (fun n=>contains35 (fun n=>!codeB n) 108 #[] eg A c l (w.drewN n) (Kd.C_below hr (pw_below_drewN (Below.refl _ _) n)) (pred108 _))
 have hsb:startB l = (decide (l.length≤64) && (incB l && !l.any (fun n=>!codeB n))):=by
  unfold startB
  congr 2
  rw [Bool.eq_iff_iff]
  simp
 have HS:=Aside0.mk hsb
 clear hsb hr eg
 generalize l.any (fun n=>!codeB n) = b at HA HS
 by_cases h64:l.length≤64
 ·have h64z:(l.length:Int)≤64:=by omega
  have hd:=decide_eq_true h64z
  cases hi:incB l with
  | false =>
   rw [hi] at HI HS
   go_enter Try.func75,Try.ntmps75
   go_wp2_with fail
   refine HI.out.mono ?_
   rintro e w' ⟨rfl,n,rfl⟩
   go_wp2_with fail
   go_ret
   exact ⟨by rw [HS.out];simp,pw_below_drewN (Below.refl _ _) _⟩
  | true =>
   rw [hi] at HI HS
   go_enter Try.func75,Try.ntmps75
   go_wp2_with fail
   refine HI.out.mono ?_
   rintro e w' ⟨rfl,n,rfl⟩
   go_wp2_with fail
   refine (HA.out n).mono ?_
   rintro e w' ⟨rfl,hb⟩
   have HB:=Aside0.mk ((pw_below_drewN (Below.refl w.heap.size w) n).trans hb)
   clear hb
   go_wp2_with fail
   go_ret
   exact ⟨by rw [HS.out];simp [h64],HB.out⟩
 ·have h64z:¬ (l.length:Int)≤64:=by omega
  have hd:=decide_eq_false h64z
  go_enter Try.func75,Try.ntmps75
  go_wp2_with fail
  go_ret
  exact ⟨by rw [HS.out];simp [h64],Below.refl _ _⟩
def pickO (l:List S48) (open_:List Int):Option (List S48) :=
 open_.foldl (fun a id=>a.bind fun acc=>if fidx (fun o:S48=>o.f0 == id) l 0 < 0 then none else some (acc ++ [rd_T48 l (fidx (fun o:S48=>o.f0 == id) l 0)])) (some [])
theorem pickO_snoc (l:List S48) (a:List Int) (id:Int):pickO l (a ++ [id]) = (pickO l a).bind fun acc=>if fidx (fun o:S48=>o.f0 == id) l 0 < 0 then none else some (acc ++ [rd_T48 l (fidx (fun o:S48=>o.f0 == id) l 0)]):=by
 unfold pickO;rw [List.foldl_append];rfl
theorem pickO_none (l:List S48) (a b:List Int) (h:pickO l a = none):pickO l (a ++ b) = none:=by
 unfold pickO at h ⊢
 rw [List.foldl_append,h]
 induction b with
 | nil=>rfl
 | cons x b ih=>exact ih
theorem pickO_no {l:List S48} {open_:List Int} (k:Nat) (h:pickO l (open_.take k) = none):pickO l open_ = none:=by
 have:=pickO_none l (open_.take k) (open_.drop k) h
 rwa [List.take_append_drop] at this
theorem pickO_len {l:List S48} {a:List Int} {acc:List S48} (h:pickO l a = some acc):acc.length = a.length:=by
 have key:∀ (a:List Int) (b acc:List S48),a.foldl (fun a id=>a.bind fun acc=>if fidx (fun o:S48=>o.f0 == id) l 0 < 0 then none else some (acc ++ [rd_T48 l (fidx (fun o:S48=>o.f0 == id) l 0)])) (some b) = some acc→acc.length = b.length + a.length:=by
  intro a
  induction a with
  | nil=>intro b acc h;injection h with h;rw [← h];rfl
  | cons x a ih =>
   intro b acc h
   rw [List.foldl_cons,Option.bind_some] at h
   by_cases hc:fidx (fun o:S48=>o.f0 == x) l 0 < 0
   ·rw [if_pos hc] at h
    exfalso
    have hn:∀ a:List Int,a.foldl (fun a id=>a.bind fun acc=>if fidx (fun o:S48=>o.f0 == id) l 0 < 0 then none else some (acc ++ [rd_T48 l (fidx (fun o:S48=>o.f0 == id) l 0)])) (none:Option (List S48)) = none:=by
     intro a
     induction a with
     | nil=>rfl
     | cons y a ih=>exact ih
    rw [hn] at h
    cases h
   ·rw [if_neg hc] at h
    rw [ih _ _ h,List.length_append,List.length_cons]
    simp
    omega
 have:=key a [] acc h
 simpa using this
def connection_chosen.f (l0:List S48) (l1 l2:List Int):Option (List S48 × Int) :=
 some (if (rightB l0 && startB l2) = true then (if incB l1 = true then (match pickO l0 l1 with|some o=>(o,0)|none=>([],7)) else ([],5)) else ([],1))
theorem pred78 (id:Int) (B:Nat) (w:World) (hB:B < w.heap.size) (hcell:w.cell? ⟨B,0,none⟩ = some (.int .i64 id)) :
  PredW Try.prog 78 #[.pointer (some ⟨B,0,none⟩)] enc48 (fun x=>x.f0 == id) w:=fun W x hb=>by
 have hc:W.cell? ⟨B,0,none⟩ = some (.int .i64 id):=(hb.cell (p:=⟨B,0,none⟩) hB).trans hcell
 have hBW:B < W.heap.size:=Nat.lt_of_lt_of_le hB hb.size
 have hne:B≠W.heap.size:=by omega
 clear hcell
 show Calls Try.prog 78 #[.agg #[.int .i64 x.f0,.int .i64 x.f1,.int .i64 x.f2,.int .i64 x.f3,.string x.f4.f0,.string x.f4.f1,.string x.f4.f2],.pointer (some ⟨B,0,none⟩)] W _
 go_enter Try.func78,Try.ntmps78
 go_wp2
 all_goals (go_ret;exact ⟨rfl,(Below.refl _ _).alloc (Nat.le_refl _) _⟩)
def connection_other.f (a0_0:Int) (a0_1:Int) (a0_2:Int) (a0_3:Int) (a0_4:ByteArray) (a0_5:ByteArray) (a0_6:ByteArray) (a1:Int):Option (Int × Bool):=if a1 = a0_1 then (some (a0_2,true)) else (if a1 = a0_2 then (some (a0_1,true)) else (some (0,false)))
set_option maxHeartbeats 8000000 in
set_option maxRecDepth 100000 in
theorem connection_other.calls (a0_0:Int) (a0_1:Int) (a0_2:Int) (a0_3:Int) (a0_4:ByteArray) (a0_5:ByteArray) (a0_6:ByteArray) (a1:Int) (r1:Int) (r2:Bool) (w:World) (h:connection_other.f a0_0 a0_1 a0_2 a0_3 a0_4 a0_5 a0_6 a1 = some (r1,r2)) :
  Calls Try.prog 80 #[.agg #[.int .i64 a0_0,.int .i64 a0_1,.int .i64 a0_2,.int .i64 a0_3,.string a0_4,.string a0_5,.string a0_6],.int .i64 a1] w fun e w'=>e = .returned (.tuple #[.int .i64 r1,.bool r2])∧Below w.heap.size w w':=by
 have hu48:=Try.underlying48
 have HB:=Aside0.mk (Below.refl w.heap.size w)
 have H:(if a1 = a0_1 then (some (a0_2,true)) else (if a1 = a0_2 then (some (a0_1,true)) else (some (0,false)))) = some (r1,r2):=h
 clear h
 by_cases c3:a1 = a0_1
 ·rw [if_pos c3] at H
  have c3b0:(a1 == a0_1) = true:=beq_iff_eq.mpr c3
  have c3b1:(a1 != a0_1) = false:=bne_eq_false_iff_eq.mpr c3
  clear c3
  simp only [Option.some.injEq,Prod.mk.injEq] at H
  obtain ⟨rfl,rfl⟩:=H
  go_enter Try.func80,Try.ntmps80
  go_wp2_with (first|((with_reducible refine gate_dst (N:=2) rfl ?_);refine box_event ?hg (N:=2) ?hd (cs:=#[.int .i64 a0_0,.int .i64 a0_1,.int .i64 a0_2,.int .i64 a0_3,.string a0_4,.string a0_5,.string a0_6]) (t:=48) ?hr ?_;(case hd=>rfl);(case hg=>rfl);(case hr=>first|(go_simp;done)|(go_simp;rfl));intro gb111 hg w4 hbox hb;have n0_:=Aside0.mk (below_step (by repeat (first|(with_reducible first|exact HB.out|apply below_alloc|apply pw_below_drewN|apply below_drew1)|exact HB.out)) hb);have n1_:=Aside0.mk (hbox);have n2_:=Aside0.mk ((by rw [hg];exact (below_size (by repeat (first|(with_reducible first|exact HB.out|apply below_alloc|apply pw_below_drewN|apply below_drew1)|exact HB.out))):w.heap.size≤gb111));have n3_:=Aside0.mk ((by rw [hg];exact (below_size (by repeat (first|(with_reducible first|exact HB.out|apply below_alloc|apply pw_below_drewN|apply below_drew1)|exact HB.out))):w.heap.size≤gb111));clear HB;have HB:=n0_;have BK111:=n1_;have GW111:=n2_;have GE111:=n3_;clear n0_ n1_ n2_ n3_;clear hb hbox hg;have hcz5_0:w4.cell? ⟨gb111,0,none⟩ = some (.int .i64 a0_0):=(blk_cell BK111.out 0).trans rfl;have hcz5_1:w4.cell? ⟨gb111,1,none⟩ = some (.int .i64 a0_1):=(blk_cell BK111.out 1).trans rfl;have hcz5_2:w4.cell? ⟨gb111,2,none⟩ = some (.int .i64 a0_2):=(blk_cell BK111.out 2).trans rfl;have hcz5_3:w4.cell? ⟨gb111,3,none⟩ = some (.int .i64 a0_3):=(blk_cell BK111.out 3).trans rfl;have hcz5_4:w4.cell? ⟨gb111,4,none⟩ = some (.string a0_4):=(blk_cell BK111.out 4).trans rfl;have hcz5_5:w4.cell? ⟨gb111,5,none⟩ = some (.string a0_5):=(blk_cell BK111.out 5).trans rfl;have hcz5_6:w4.cell? ⟨gb111,6,none⟩ = some (.string a0_6):=(blk_cell BK111.out 6).trans rfl;have hfz5_0:=blk_frozen BK111.out 0;have hfz5_1:=blk_frozen BK111.out 1;have hfz5_2:=blk_frozen BK111.out 2;have hfz5_3:=blk_frozen BK111.out 3;have hfz5_4:=blk_frozen BK111.out 4;have hfz5_5:=blk_frozen BK111.out 5;have hfz5_6:=blk_frozen BK111.out 6))
  go_ret2
  exact ⟨by first|rfl|(simp [errW_none,errW_some]<;>rfl)|(simp [*,errW_none,errW_some]<;>rfl),by repeat (first|(with_reducible first|exact HB.out|apply below_alloc|apply pw_below_drewN|apply below_drew1|refine below_set ?_ GE111.out)|exact HB.out)⟩
 ·rw [if_neg c3] at H
  have c3b0:(a1 == a0_1) = false:=beq_eq_false_iff_ne.mpr c3
  have c3b1:(a1 != a0_1) = true:=bne_iff_ne.mpr c3
  by_cases c6:a1 = a0_2
  ·rw [if_pos c6] at H
   have c6b0:(a1 == a0_2) = true:=beq_iff_eq.mpr c6
   have c6b1:(a1 != a0_2) = false:=bne_eq_false_iff_eq.mpr c6
   clear c6
   simp only [Option.some.injEq,Prod.mk.injEq] at H
   obtain ⟨rfl,rfl⟩:=H
   go_enter Try.func80,Try.ntmps80
   go_wp2_with (first|((with_reducible refine gate_dst (N:=2) rfl ?_);refine box_event ?hg (N:=2) ?hd (cs:=#[.int .i64 a0_0,.int .i64 a0_1,.int .i64 a0_2,.int .i64 a0_3,.string a0_4,.string a0_5,.string a0_6]) (t:=48) ?hr ?_;(case hd=>rfl);(case hg=>rfl);(case hr=>first|(go_simp;done)|(go_simp;rfl));intro gb111 hg w7 hbox hb;have n0_:=Aside0.mk (below_step (by repeat (first|(with_reducible first|exact HB.out|apply below_alloc|apply pw_below_drewN|apply below_drew1)|exact HB.out)) hb);have n1_:=Aside0.mk (hbox);have n2_:=Aside0.mk ((by rw [hg];exact (below_size (by repeat (first|(with_reducible first|exact HB.out|apply below_alloc|apply pw_below_drewN|apply below_drew1)|exact HB.out))):w.heap.size≤gb111));have n3_:=Aside0.mk ((by rw [hg];exact (below_size (by repeat (first|(with_reducible first|exact HB.out|apply below_alloc|apply pw_below_drewN|apply below_drew1)|exact HB.out))):w.heap.size≤gb111));clear HB;have HB:=n0_;have BK111:=n1_;have GW111:=n2_;have GE111:=n3_;clear n0_ n1_ n2_ n3_;clear hb hbox hg;have hcz8_0:w7.cell? ⟨gb111,0,none⟩ = some (.int .i64 a0_0):=(blk_cell BK111.out 0).trans rfl;have hcz8_1:w7.cell? ⟨gb111,1,none⟩ = some (.int .i64 a0_1):=(blk_cell BK111.out 1).trans rfl;have hcz8_2:w7.cell? ⟨gb111,2,none⟩ = some (.int .i64 a0_2):=(blk_cell BK111.out 2).trans rfl;have hcz8_3:w7.cell? ⟨gb111,3,none⟩ = some (.int .i64 a0_3):=(blk_cell BK111.out 3).trans rfl;have hcz8_4:w7.cell? ⟨gb111,4,none⟩ = some (.string a0_4):=(blk_cell BK111.out 4).trans rfl;have hcz8_5:w7.cell? ⟨gb111,5,none⟩ = some (.string a0_5):=(blk_cell BK111.out 5).trans rfl;have hcz8_6:w7.cell? ⟨gb111,6,none⟩ = some (.string a0_6):=(blk_cell BK111.out 6).trans rfl;have hfz8_0:=blk_frozen BK111.out 0;have hfz8_1:=blk_frozen BK111.out 1;have hfz8_2:=blk_frozen BK111.out 2;have hfz8_3:=blk_frozen BK111.out 3;have hfz8_4:=blk_frozen BK111.out 4;have hfz8_5:=blk_frozen BK111.out 5;have hfz8_6:=blk_frozen BK111.out 6))
   go_ret2
   exact ⟨by first|rfl|(simp [errW_none,errW_some]<;>rfl)|(simp [*,errW_none,errW_some]<;>rfl),by repeat (first|(with_reducible first|exact HB.out|apply below_alloc|apply pw_below_drewN|apply below_drew1|refine below_set ?_ GE111.out)|exact HB.out)⟩
  ·rw [if_neg c6] at H
   have c6b0:(a1 == a0_2) = false:=beq_eq_false_iff_ne.mpr c6
   have c6b1:(a1 != a0_2) = true:=bne_iff_ne.mpr c6
   simp only [Option.some.injEq,Prod.mk.injEq] at H
   obtain ⟨rfl,rfl⟩:=H
   go_enter Try.func80,Try.ntmps80
   go_wp2_with (first|((with_reducible refine gate_dst (N:=2) rfl ?_);refine box_event ?hg (N:=2) ?hd (cs:=#[.int .i64 a0_0,.int .i64 a0_1,.int .i64 a0_2,.int .i64 a0_3,.string a0_4,.string a0_5,.string a0_6]) (t:=48) ?hr ?_;(case hd=>rfl);(case hg=>rfl);(case hr=>first|(go_simp;done)|(go_simp;rfl));intro gb111 hg w9 hbox hb;have n0_:=Aside0.mk (below_step (by repeat (first|(with_reducible first|exact HB.out|apply below_alloc|apply pw_below_drewN|apply below_drew1)|exact HB.out)) hb);have n1_:=Aside0.mk (hbox);have n2_:=Aside0.mk ((by rw [hg];exact (below_size (by repeat (first|(with_reducible first|exact HB.out|apply below_alloc|apply pw_below_drewN|apply below_drew1)|exact HB.out))):w.heap.size≤gb111));have n3_:=Aside0.mk ((by rw [hg];exact (below_size (by repeat (first|(with_reducible first|exact HB.out|apply below_alloc|apply pw_below_drewN|apply below_drew1)|exact HB.out))):w.heap.size≤gb111));clear HB;have HB:=n0_;have BK111:=n1_;have GW111:=n2_;have GE111:=n3_;clear n0_ n1_ n2_ n3_;clear hb hbox hg;have hcz10_0:w9.cell? ⟨gb111,0,none⟩ = some (.int .i64 a0_0):=(blk_cell BK111.out 0).trans rfl;have hcz10_1:w9.cell? ⟨gb111,1,none⟩ = some (.int .i64 a0_1):=(blk_cell BK111.out 1).trans rfl;have hcz10_2:w9.cell? ⟨gb111,2,none⟩ = some (.int .i64 a0_2):=(blk_cell BK111.out 2).trans rfl;have hcz10_3:w9.cell? ⟨gb111,3,none⟩ = some (.int .i64 a0_3):=(blk_cell BK111.out 3).trans rfl;have hcz10_4:w9.cell? ⟨gb111,4,none⟩ = some (.string a0_4):=(blk_cell BK111.out 4).trans rfl;have hcz10_5:w9.cell? ⟨gb111,5,none⟩ = some (.string a0_5):=(blk_cell BK111.out 5).trans rfl;have hcz10_6:w9.cell? ⟨gb111,6,none⟩ = some (.string a0_6):=(blk_cell BK111.out 6).trans rfl;have hfz10_0:=blk_frozen BK111.out 0;have hfz10_1:=blk_frozen BK111.out 1;have hfz10_2:=blk_frozen BK111.out 2;have hfz10_3:=blk_frozen BK111.out 3;have hfz10_4:=blk_frozen BK111.out 4;have hfz10_5:=blk_frozen BK111.out 5;have hfz10_6:=blk_frozen BK111.out 6))
   go_ret2
   exact ⟨by first|rfl|(simp [errW_none,errW_some]<;>rfl)|(simp [*,errW_none,errW_some]<;>rfl),by repeat (first|(with_reducible first|exact HB.out|apply below_alloc|apply pw_below_drewN|apply below_drew1|refine below_set ?_ GE111.out)|exact HB.out)⟩
def cmp_isNaN_int.f (a0:Int):Option (Bool):=some (a0 != a0)
set_option maxHeartbeats 8000000 in
set_option maxRecDepth 100000 in
theorem cmp_isNaN_int.calls (a0:Int) (r:Bool) (w:World) (h:cmp_isNaN_int.f a0 = some r) :
  Calls Try.prog 95 #[.int .i64 a0] w fun e w'=>e = .returned (.bool r)∧Drawn0 w w':=by
 have H:(some (a0 != a0)) = some r:=h
 clear h
 obtain rfl:=Option.some.inj H
 go_enter Try.func95,Try.ntmps95
 go_wp2
 go_ret
 exact ⟨by first|rfl|(simp;done)|(simp [*];done),by repeat (first|exact Drawn0.refl _|apply Drawn0.step)⟩
def cmp_Compare_int.f (a0:Int) (a1:Int):Option (Int):=(cmp_isNaN_int.f a0).bind fun t232=>((cmp_isNaN_int.f a1).bind fun t233=>(if t232 = true then (if t233 = true then (some 0) else (some (-1))) else (if t233 = true then (some 1) else (if a0 < a1 then (some (-1)) else (if a0 > a1 then (some 1) else (some 0))))))
set_option maxHeartbeats 8000000 in
set_option maxRecDepth 100000 in
theorem cmp_Compare_int.calls (a0:Int) (a1:Int) (r:Int) (w:World) (h:cmp_Compare_int.f a0 a1 = some r) :
  Calls Try.prog 110 #[.int .i64 a0,.int .i64 a1] w fun e w'=>e = .returned (.int .i64 r)∧Drawn0 w w':=by
 have H:((cmp_isNaN_int.f a0).bind fun t232=>((cmp_isNaN_int.f a1).bind fun t233=>(if t232 = true then (if t233 = true then (some 0) else (some (-1))) else (if t233 = true then (some 1) else (if a0 < a1 then (some (-1)) else (if a0 > a1 then (some 1) else (some 0))))))) = some r:=h
 clear h
 replace H:=Option.bind_eq_some_iff.mp H
 obtain ⟨t232,A30,H⟩:=H
 replace H:((cmp_isNaN_int.f a1).bind fun t233=>(if t232 = true then (if t233 = true then (some 0) else (some (-1))) else (if t233 = true then (some 1) else (if a0 < a1 then (some (-1)) else (if a0 > a1 then (some 1) else (some 0)))))) = some r:=H
 have A3:=Aside0.mk A30
 clear A30
 replace H:=Option.bind_eq_some_iff.mp H
 obtain ⟨t233,A40,H⟩:=H
 replace H:(if t232 = true then (if t233 = true then (some 0) else (some (-1))) else (if t233 = true then (some 1) else (if a0 < a1 then (some (-1)) else (if a0 > a1 then (some 1) else (some 0))))) = some r:=H
 have A4:=Aside0.mk A40
 clear A40
 by_cases c5:t232 = true
 ·subst c5
  have H1:(if t233 = true then (some 0) else (some (-1))) = some r:=by rw [if_pos rfl] at H;exact H
  clear H
  have H:=H1
  clear H1
  by_cases c6:t233 = true
  ·subst c6
   have H1:(some 0) = some r:=by rw [if_pos rfl] at H;exact H
   clear H
   have H:=H1
   clear H1
   obtain rfl:=Option.some.inj H
   go_enter Try.func110,Try.ntmps110
   go_wp2_with (first|((with_reducible refine gate_callee (f:=95) rfl ?_);refine goesL_ (some 8) rfl rfl Try.func95 (by kernel_rfl) rfl #[.int .i64 a0] rfl (by (try simp only [List.map_toArray,List.map_cons,List.map_nil]);first|done|rfl|(simp only [List.length_drop,List.length_take];rfl)) ?_;(with_reducible refine (cmp_isNaN_int.calls a0 true _ A3.out).mono ?_);rintro e w' ⟨rfl,⟨nd,rfl⟩⟩;refine ⟨_,rfl,?_⟩)|((with_reducible refine gate_callee (f:=95) rfl ?_);refine goesL_ (some 10) rfl rfl Try.func95 (by kernel_rfl) rfl #[.int .i64 a1] rfl (by (try simp only [List.map_toArray,List.map_cons,List.map_nil]);first|done|rfl|(simp only [List.length_drop,List.length_take];rfl)) ?_;(with_reducible refine (cmp_isNaN_int.calls a1 true _ A4.out).mono ?_);rintro e w' ⟨rfl,⟨nd,rfl⟩⟩;refine ⟨_,rfl,?_⟩))
   go_ret
   exact ⟨by first|rfl|(simp;done)|(simp [*];done),by repeat (first|exact Drawn0.refl _|apply Drawn0.step)⟩
  ·replace c6:=Bool.eq_false_iff.mpr c6
   subst c6
   have H1:(some (-1)) = some r:=by rw [if_neg (show ¬ (false = true) by decide)] at H;exact H
   clear H
   have H:=H1
   clear H1
   obtain rfl:=Option.some.inj H
   go_enter Try.func110,Try.ntmps110
   go_wp2_with (first|((with_reducible refine gate_callee (f:=95) rfl ?_);refine goesL_ (some 8) rfl rfl Try.func95 (by kernel_rfl) rfl #[.int .i64 a0] rfl (by (try simp only [List.map_toArray,List.map_cons,List.map_nil]);first|done|rfl|(simp only [List.length_drop,List.length_take];rfl)) ?_;(with_reducible refine (cmp_isNaN_int.calls a0 true _ A3.out).mono ?_);rintro e w' ⟨rfl,⟨nd,rfl⟩⟩;refine ⟨_,rfl,?_⟩)|((with_reducible refine gate_callee (f:=95) rfl ?_);refine goesL_ (some 10) rfl rfl Try.func95 (by kernel_rfl) rfl #[.int .i64 a1] rfl (by (try simp only [List.map_toArray,List.map_cons,List.map_nil]);first|done|rfl|(simp only [List.length_drop,List.length_take];rfl)) ?_;(with_reducible refine (cmp_isNaN_int.calls a1 false _ A4.out).mono ?_);rintro e w' ⟨rfl,⟨nd,rfl⟩⟩;refine ⟨_,rfl,?_⟩))
   go_ret
   exact ⟨by first|rfl|(simp;done)|(simp [*];done),by repeat (first|exact Drawn0.refl _|apply Drawn0.step)⟩
 ·replace c5:=Bool.eq_false_iff.mpr c5
  subst c5
  have H1:(if t233 = true then (some 1) else (if a0 < a1 then (some (-1)) else (if a0 > a1 then (some 1) else (some 0)))) = some r:=by rw [if_neg (show ¬ (false = true) by decide)] at H;exact H
  clear H
  have H:=H1
  clear H1
  by_cases c7:t233 = true
  ·subst c7
   have H1:(some 1) = some r:=by rw [if_pos rfl] at H;exact H
   clear H
   have H:=H1
   clear H1
   obtain rfl:=Option.some.inj H
   go_enter Try.func110,Try.ntmps110
   go_wp2_with (first|((with_reducible refine gate_callee (f:=95) rfl ?_);refine goesL_ (some 8) rfl rfl Try.func95 (by kernel_rfl) rfl #[.int .i64 a0] rfl (by (try simp only [List.map_toArray,List.map_cons,List.map_nil]);first|done|rfl|(simp only [List.length_drop,List.length_take];rfl)) ?_;(with_reducible refine (cmp_isNaN_int.calls a0 false _ A3.out).mono ?_);rintro e w' ⟨rfl,⟨nd,rfl⟩⟩;refine ⟨_,rfl,?_⟩)|((with_reducible refine gate_callee (f:=95) rfl ?_);refine goesL_ (some 10) rfl rfl Try.func95 (by kernel_rfl) rfl #[.int .i64 a1] rfl (by (try simp only [List.map_toArray,List.map_cons,List.map_nil]);first|done|rfl|(simp only [List.length_drop,List.length_take];rfl)) ?_;(with_reducible refine (cmp_isNaN_int.calls a1 true _ A4.out).mono ?_);rintro e w' ⟨rfl,⟨nd,rfl⟩⟩;refine ⟨_,rfl,?_⟩))
   go_ret
   exact ⟨by first|rfl|(simp;done)|(simp [*];done),by repeat (first|exact Drawn0.refl _|apply Drawn0.step)⟩
  ·replace c7:=Bool.eq_false_iff.mpr c7
   subst c7
   have H1:(if a0 < a1 then (some (-1)) else (if a0 > a1 then (some 1) else (some 0))) = some r:=by rw [if_neg (show ¬ (false = true) by decide)] at H;exact H
   clear H
   have H:=H1
   clear H1
   by_cases c8:a0 < a1
   ·rw [if_pos c8] at H
    have c8b0:decide (a0 < a1) = true:=decide_eq_true c8
    clear c8
    obtain rfl:=Option.some.inj H
    go_enter Try.func110,Try.ntmps110
    go_wp2_with (first|((with_reducible refine gate_callee (f:=95) rfl ?_);refine goesL_ (some 8) rfl rfl Try.func95 (by kernel_rfl) rfl #[.int .i64 a0] rfl (by (try simp only [List.map_toArray,List.map_cons,List.map_nil]);first|done|rfl|(simp only [List.length_drop,List.length_take];rfl)) ?_;(with_reducible refine (cmp_isNaN_int.calls a0 false _ A3.out).mono ?_);rintro e w' ⟨rfl,⟨nd,rfl⟩⟩;refine ⟨_,rfl,?_⟩)|((with_reducible refine gate_callee (f:=95) rfl ?_);refine goesL_ (some 10) rfl rfl Try.func95 (by kernel_rfl) rfl #[.int .i64 a1] rfl (by (try simp only [List.map_toArray,List.map_cons,List.map_nil]);first|done|rfl|(simp only [List.length_drop,List.length_take];rfl)) ?_;(with_reducible refine (cmp_isNaN_int.calls a1 false _ A4.out).mono ?_);rintro e w' ⟨rfl,⟨nd,rfl⟩⟩;refine ⟨_,rfl,?_⟩))
    go_ret
    exact ⟨by first|rfl|(simp;done)|(simp [*];done),by repeat (first|exact Drawn0.refl _|apply Drawn0.step)⟩
   ·rw [if_neg c8] at H
    have c8b0:decide (a0 < a1) = false:=decide_eq_false c8
    clear c8
    by_cases c9:a0 > a1
    ·rw [if_pos c9] at H
     have c9b0:decide (a1 < a0) = true:=decide_eq_true c9
     clear c9
     obtain rfl:=Option.some.inj H
     go_enter Try.func110,Try.ntmps110
     go_wp2_with (first|((with_reducible refine gate_callee (f:=95) rfl ?_);refine goesL_ (some 8) rfl rfl Try.func95 (by kernel_rfl) rfl #[.int .i64 a0] rfl (by (try simp only [List.map_toArray,List.map_cons,List.map_nil]);first|done|rfl|(simp only [List.length_drop,List.length_take];rfl)) ?_;(with_reducible refine (cmp_isNaN_int.calls a0 false _ A3.out).mono ?_);rintro e w' ⟨rfl,⟨nd,rfl⟩⟩;refine ⟨_,rfl,?_⟩)|((with_reducible refine gate_callee (f:=95) rfl ?_);refine goesL_ (some 10) rfl rfl Try.func95 (by kernel_rfl) rfl #[.int .i64 a1] rfl (by (try simp only [List.map_toArray,List.map_cons,List.map_nil]);first|done|rfl|(simp only [List.length_drop,List.length_take];rfl)) ?_;(with_reducible refine (cmp_isNaN_int.calls a1 false _ A4.out).mono ?_);rintro e w' ⟨rfl,⟨nd,rfl⟩⟩;refine ⟨_,rfl,?_⟩))
     go_ret
     exact ⟨by first|rfl|(simp;done)|(simp [*];done),by repeat (first|exact Drawn0.refl _|apply Drawn0.step)⟩
    ·rw [if_neg c9] at H
     have c9b0:decide (a1 < a0) = false:=decide_eq_false c9
     clear c9
     obtain rfl:=Option.some.inj H
     go_enter Try.func110,Try.ntmps110
     go_wp2_with (first|((with_reducible refine gate_callee (f:=95) rfl ?_);refine goesL_ (some 8) rfl rfl Try.func95 (by kernel_rfl) rfl #[.int .i64 a0] rfl (by (try simp only [List.map_toArray,List.map_cons,List.map_nil]);first|done|rfl|(simp only [List.length_drop,List.length_take];rfl)) ?_;(with_reducible refine (cmp_isNaN_int.calls a0 false _ A3.out).mono ?_);rintro e w' ⟨rfl,⟨nd,rfl⟩⟩;refine ⟨_,rfl,?_⟩)|((with_reducible refine gate_callee (f:=95) rfl ?_);refine goesL_ (some 10) rfl rfl Try.func95 (by kernel_rfl) rfl #[.int .i64 a1] rfl (by (try simp only [List.map_toArray,List.map_cons,List.map_nil]);first|done|rfl|(simp only [List.length_drop,List.length_take];rfl)) ?_;(with_reducible refine (cmp_isNaN_int.calls a1 false _ A4.out).mono ?_);rintro e w' ⟨rfl,⟨nd,rfl⟩⟩;refine ⟨_,rfl,?_⟩))
     go_ret
     exact ⟨by first|rfl|(simp;done)|(simp [*];done),by repeat (first|exact Drawn0.refl _|apply Drawn0.step)⟩
def slices_Compare_int_int.l0:Nat→List Int→List Int→List Int→Int→Int→Option (Int)
 | 0,_,_,_,_,_=>none
 | k + 1,x0,x1,x9,x10,x11=>if x11 < x10 then (if 0≤x11 then (if x11 < (x9.length:Int) then (if x11 ≥ (x1.length:Int) then (some 1) else (if x11 < (x1.length:Int) then ((cmp_Compare_int.f (rd x9 x11) (rd x1 x11)).bind fun t236=>(if t236 = 0 then (slices_Compare_int_int.l0 k x0 x1 x9 x10 (wrap64 (x11 + 1))) else (some t236))) else (none))) else (none)) else (none)) else (if (x0.length:Int) < (x1.length:Int) then (some (-1)) else (some 0))
def slices_Compare_int_int.f (k:Nat) (l0:List Int) (l1:List Int):Option (Int):=slices_Compare_int_int.l0 k l0 l1 l0 (l0.length:Int) 0
set_option maxHeartbeats 8000000 in
set_option maxRecDepth 100000 in
theorem slices_Compare_int_int.calls (k:Nat) (A0:Option Addr) (c0:Nat) (l0:List Int) (A1:Option Addr) (c1:Nat) (l1:List Int) (r:Int) (w:World) (hr0:Kd.C (Kd.int .i64) w A0 l0.length l0) (hc0:l0.length≤c0) (hr1:Kd.C (Kd.int .i64) w A1 l1.length l1) (hc1:l1.length≤c1) (h:slices_Compare_int_int.f k l0 l1 = some r) :
  Calls Try.prog 87 #[.slice A0 l0.length c0,.slice A1 l1.length c1] w fun e w'=>e = .returned (.int .i64 r)∧Drawn0 w w':=by
 have HR0:=Aside0.mk hr0
 have HC0:=Aside0.mk hc0
 clear hr0 hc0
 have HR1:=Aside0.mk hr1
 have HC1:=Aside0.mk hc1
 clear hr1 hc1
 have H:(slices_Compare_int_int.l0 k l0 l1 l0 (l0.length:Int) 0) = some r:=h
 clear h
 have H':=Aside0.mk H
 clear H
 go_enter Try.func87,Try.ntmps87
 go_wp2
 go_loopg [11] k (fun kq v11 w'=>∃ (x11_1:Int),v11 = .int .i64 x11_1∧Aside0 (slices_Compare_int_int.l0 kq l0 l1 l0 (l0.length:Int) x11_1 = some r)∧Aside0 (kq≤k)∧Drawn0 w w')
 case atStart=>exact ⟨(0),(by first|rfl|(simp;done)|(simp [*];done)),H',⟨Nat.le_refl _⟩,by repeat (first|exact Drawn0.refl _|apply Drawn0.step)⟩
 case round =>
  clear H'
  try clear c1
  try clear p2
  obtain ⟨x11_1,rfl,HA,HK1,⟨m1,rfl⟩⟩:=hrel
  cases gk with
  | zero=>exact absurd HA.out (by simp [slices_Compare_int_int.l0])
  | succ k1 =>
   have H:=HA.out
   clear HA
   simp only [slices_Compare_int_int.l0] at H
   by_cases c3:x11_1 < (l0.length:Int)
   ·rw [if_pos c3] at H
    have c3b0:decide (x11_1 < (l0.length:Int)) = true:=decide_eq_true c3
    clear c3
    by_cases c4:0≤x11_1
    ·rw [if_pos c4] at H
     have c4b0:decide (0≤x11_1) = true:=decide_eq_true c4
     clear c4
     by_cases c5:x11_1 < (l0.length:Int)
     ·rw [if_pos c5] at H
      have c5b0:decide (x11_1 < (l0.length:Int)) = true:=decide_eq_true c5
      clear c5
      by_cases c6:x11_1 ≥ (l1.length:Int)
      ·rw [if_pos c6] at H
       have c6b0:decide ((l1.length:Int)≤x11_1) = true:=decide_eq_true c6
       clear c6
       obtain rfl:=Option.some.inj H
       have p234:0≤(x11_1:Int):=of_decide_eq_true (by first|(with_reducible assumption)|assumption)
       have q234:x11_1 < (l0.length:Int):=of_decide_eq_true (by first|(with_reducible assumption)|assumption)
       obtain ⟨ad234,e234,hx234_0⟩:=Kd.at_int HR0.out x11_1 p234 q234
       cases e234
       replace p234:=eq_true p234
       replace q234:=eq_true q234
       go_wp2
       go_ret
       exact ⟨by first|rfl|(simp;done)|(simp [*];done),by repeat (first|exact Drawn0.refl _|apply Drawn0.step)⟩
      ·rw [if_neg c6] at H
       have c6b0:decide ((l1.length:Int)≤x11_1) = false:=decide_eq_false c6
       clear c6
       by_cases c7:x11_1 < (l1.length:Int)
       ·rw [if_pos c7] at H
        have c7b0:decide (x11_1 < (l1.length:Int)) = true:=decide_eq_true c7
        clear c7
        replace H:=Option.bind_eq_some_iff.mp H
        obtain ⟨t236,A80,H⟩:=H
        replace H:(if t236 = 0 then (slices_Compare_int_int.l0 k1 l0 l1 l0 (l0.length:Int) (wrap64 (x11_1 + 1))) else (some t236)) = some r:=H
        have A8:=Aside0.mk A80
        clear A80
        by_cases c9:t236 = 0
        ·rw [if_pos c9] at H
         have c9b0:(t236 == 0) = true:=beq_iff_eq.mpr c9
         have c9b1:(t236 != 0) = false:=bne_eq_false_iff_eq.mpr c9
         clear c9
         have H':=Aside0.mk H
         clear H
         have p234:0≤(x11_1:Int):=of_decide_eq_true (by first|(with_reducible assumption)|assumption)
         have q234:x11_1 < (l0.length:Int):=of_decide_eq_true (by first|(with_reducible assumption)|assumption)
         obtain ⟨ad234,e234,hx234_0⟩:=Kd.at_int HR0.out x11_1 p234 q234
         cases e234
         replace p234:=eq_true p234
         replace q234:=eq_true q234
         have p235:0≤(x11_1:Int):=of_decide_eq_true (by first|(with_reducible assumption)|assumption)
         have q235:x11_1 < (l1.length:Int):=of_decide_eq_true (by first|(with_reducible assumption)|assumption)
         obtain ⟨ad235,e235,hx235_0⟩:=Kd.at_int HR1.out x11_1 p235 q235
         cases e235
         replace p235:=eq_true p235
         replace q235:=eq_true q235
         go_wp2_with (first|((with_reducible refine gate_callee (f:=110) rfl ?_);refine goesL_ (some 26) rfl rfl Try.func110 (by kernel_rfl) rfl #[.int .i64 (rd l0 x11_1),.int .i64 (rd l1 x11_1)] rfl (by (try simp only [List.map_toArray,List.map_cons,List.map_nil]);first|done|rfl|(simp only [List.length_drop,List.length_take];rfl)) ?_;(with_reducible refine (cmp_Compare_int.calls (rd l0 x11_1) (rd l1 x11_1) t236 _ A8.out).mono ?_);rintro e w' ⟨rfl,⟨nd,rfl⟩⟩;refine ⟨_,rfl,?_⟩))
         go_roundg k1
         case measure=>have:=HK1.out;omega
         case rel=>exact ⟨(wrap64 (x11_1 + 1)),(by first|rfl|(simp;done)|(simp [*];done)),H',⟨by have:=HK1.out;omega⟩,by repeat (first|exact Drawn0.refl _|apply Drawn0.step)⟩
        ·rw [if_neg c9] at H
         have c9b0:(t236 == 0) = false:=beq_eq_false_iff_ne.mpr c9
         have c9b1:(t236 != 0) = true:=bne_iff_ne.mpr c9
         obtain rfl:=Option.some.inj H
         have p234:0≤(x11_1:Int):=of_decide_eq_true (by first|(with_reducible assumption)|assumption)
         have q234:x11_1 < (l0.length:Int):=of_decide_eq_true (by first|(with_reducible assumption)|assumption)
         obtain ⟨ad234,e234,hx234_0⟩:=Kd.at_int HR0.out x11_1 p234 q234
         cases e234
         replace p234:=eq_true p234
         replace q234:=eq_true q234
         have p235:0≤(x11_1:Int):=of_decide_eq_true (by first|(with_reducible assumption)|assumption)
         have q235:x11_1 < (l1.length:Int):=of_decide_eq_true (by first|(with_reducible assumption)|assumption)
         obtain ⟨ad235,e235,hx235_0⟩:=Kd.at_int HR1.out x11_1 p235 q235
         cases e235
         replace p235:=eq_true p235
         replace q235:=eq_true q235
         go_wp2_with (first|((with_reducible refine gate_callee (f:=110) rfl ?_);refine goesL_ (some 26) rfl rfl Try.func110 (by kernel_rfl) rfl #[.int .i64 (rd l0 x11_1),.int .i64 (rd l1 x11_1)] rfl (by (try simp only [List.map_toArray,List.map_cons,List.map_nil]);first|done|rfl|(simp only [List.length_drop,List.length_take];rfl)) ?_;(with_reducible refine (cmp_Compare_int.calls (rd l0 x11_1) (rd l1 x11_1) t236 _ A8.out).mono ?_);rintro e w' ⟨rfl,⟨nd,rfl⟩⟩;refine ⟨_,rfl,?_⟩))
         go_ret
         exact ⟨by first|rfl|(simp;done)|(simp [*];done),by repeat (first|exact Drawn0.refl _|apply Drawn0.step)⟩
       ·rw [if_neg c7] at H
        exact absurd H (by simp)
     ·rw [if_neg c5] at H
      exact absurd H (by simp)
    ·rw [if_neg c4] at H
     exact absurd H (by simp)
   ·rw [if_neg c3] at H
    have c3b0:decide (x11_1 < (l0.length:Int)) = false:=decide_eq_false c3
    clear c3
    by_cases c10:(l0.length:Int) < (l1.length:Int)
    ·rw [if_pos c10] at H
     have c10b0:decide ((l0.length:Int) < (l1.length:Int)) = true:=decide_eq_true c10
     have c10b1:decide (l0.length < l1.length) = true:=decide_eq_true (Int.ofNat_lt.mp c10)
     clear c10
     obtain rfl:=Option.some.inj H
     go_wp2
     go_ret
     exact ⟨by first|rfl|(simp;done)|(simp [*];done),by repeat (first|exact Drawn0.refl _|apply Drawn0.step)⟩
    ·rw [if_neg c10] at H
     have c10b0:decide ((l0.length:Int) < (l1.length:Int)) = false:=decide_eq_false c10
     have c10b1:decide (l0.length < l1.length) = false:=decide_eq_false (fun h=>c10 (Int.ofNat_lt.mpr h))
     clear c10
     obtain rfl:=Option.some.inj H
     go_wp2
     go_ret
     exact ⟨by first|rfl|(simp;done)|(simp [*];done),by repeat (first|exact Drawn0.refl _|apply Drawn0.step)⟩
def otherO (o:S48) (n:Int):Option Int:=if n = o.f1 then some o.f2 else if n = o.f2 then some o.f1 else none
theorem other80 (o:S48) (n:Int) (w:World) :
  Calls Try.prog 80 #[.agg #[.int .i64 o.f0,.int .i64 o.f1,.int .i64 o.f2,.int .i64 o.f3,.string o.f4.f0,.string o.f4.f1,.string o.f4.f2],.int .i64 n] w fun e w'=>e = .returned (.tuple #[.int .i64 ((otherO o n).getD 0),.bool (otherO o n).isSome])∧Below w.heap.size w w':=by
 refine connection_other.calls _ _ _ _ _ _ _ _ _ _ w ?_
 unfold connection_other.f otherO
 by_cases h1:n = o.f1
 ·rw [if_pos h1,if_pos h1];rfl
 ·rw [if_neg h1,if_neg h1]
  by_cases h2:n = o.f2
  ·rw [if_pos h2,if_pos h2];rfl
  ·rw [if_neg h2,if_neg h2];rfl
def cmpL:List Int→List Int→Int
 | [],[]=>0
 | [],_ :: _=>-1
 | _ :: _,[]=>1
 | x :: a,y :: b=>if x < y then -1 else if y < x then 1 else cmpL a b
theorem cmp_at (l m:List Int) (i:Nat) (h1:i < l.length) (h2:i < m.length):cmpL (l.drop i) (m.drop i) = if l[i] < m[i] then -1 else if m[i] < l[i] then 1 else cmpL (l.drop (i + 1)) (m.drop (i + 1)):=by
 rw [List.drop_eq_getElem_cons h1,List.drop_eq_getElem_cons h2];rfl
theorem compare_ev (l m:List Int) (hl:l.length≤9223372036854775807):∃ k,slices_Compare_int_int.f k l m = some (cmpL l m):=by
 have key:∀ d (i:Nat),l.length - i = d→i≤l.length→i≤m.length ∨ l.length≤i→slices_Compare_int_int.l0 (d + 1) l m l (l.length:Int) (i:Int) = some (cmpL (l.drop i) (m.drop i)):=by
  intro d
  induction d with
  | zero =>
   intro i hd hi _
   simp only [slices_Compare_int_int.l0]
   rw [if_neg (by omega)]
   have:l.drop i = []:=List.drop_of_length_le (by omega)
   rw [this]
   by_cases h:l.length < m.length
   ·rw [if_pos (by omega)]
    rw [List.drop_eq_getElem_cons (show i < m.length by omega)]
    rfl
   ·rw [if_neg (by omega)]
    have:m.drop i = []:=List.drop_of_length_le (by omega)
    rw [this]
    rfl
  | succ d ih =>
   intro i hd hi hm
   have hlt:i < l.length:=by omega
   have him:i≤m.length:=by omega
   generalize hk:d + 1 = k at ih hd ⊢
   simp only [slices_Compare_int_int.l0]
   rw [if_pos (by omega),if_pos (by omega),if_pos (by omega)]
   by_cases h2:i < m.length
   ·rw [if_neg (by omega),if_pos (by omega),rd_nat l i hlt,rd_nat m i h2,cmp_at l m i hlt h2]
    unfold cmp_Compare_int.f cmp_isNaN_int.f
    by_cases hc:l[i] < m[i]
    ·simp [hc]
    ·by_cases hc2:m[i] < l[i]
     ·simp [hc,hc2]
     ·have he:l[i] = m[i]:=by omega
      rw [wi1 hlt hl,ih (i + 1) (by omega) (by omega) (by omega)]
      simp [he]
   ·rw [if_pos (by omega),List.drop_eq_getElem_cons hlt]
    have:m.drop i = []:=List.drop_of_length_le (by omega)
    rw [this]
    rfl
 exact ⟨_,key _ 0 rfl (by omega) (by omega)⟩
theorem comp87 (A:Option Addr) (c:Nat) (l:List Int) (B:Option Addr) (d:Nat) (m:List Int) (w:World) (hr:Kd.C (Kd.int .i64) w A l.length l) (hc:l.length≤c) (hs:Kd.C (Kd.int .i64) w B m.length m) (hd:m.length≤d) :
  Calls Try.prog 87 #[.slice A l.length c,.slice B m.length d] w fun e w'=>e = .returned (.int .i64 (cmpL l m))∧∃ n,w' = w.drewN n:=by
 obtain ⟨k,hk⟩:=compare_ev l m hr.2.1
 exact (slices_Compare_int_int.calls k A c l B d m _ w hr hc hs hd hk).mono fun _ _ h=>⟨h.1,h.2.out⟩
set_option maxHeartbeats 4000000 in
set_option maxRecDepth 100000 in
theorem copy88 (bd bs nd ns:Nat) (fd fs:Int→Option Value) (w:World) (hd:MapV w bd nd fd) (hs:MapV w bs ns fs) (hne:bd≠bs) (hn:nd + ns≤9223372036854775807) :
  Calls Try.prog 88 #[.map (some bd),.map (some bs)] w fun e w'=>e = .returned (.tuple #[])∧MapV w' bd (nd + ns) (fun j=>(fs j).or (fd j))∧MapV w' bs ns fs∧w.grownBy w' (some bd):=by
 have HD:=Aside0.mk hd
 have HS:=Aside0.mk hs
 have hld:=hd.lt
 have hls:=hs.lt
 clear hd hs
 go_enter Try.func88,Try.ntmps88
 go_wp2_with (at_range;refine MapV.range HS.out 78 23 Try.underlying78 rfl _ rfl rfl ?_;intro w0 left0 cnt0 hr0 hl0 hb0 hs0)
 go_frame
 have HR0:=Aside0.mk hr0
 have HL0:=Aside0.mk (show ∀ k,(left0 k→fd k = fd k)∧(¬ left0 k→fd k = (fs k).or (fd k)) from fun k=>⟨fun _=>rfl,fun h=>by
  have:=fun e=>h ((hl0 k).2 e)
  cases hf:fs k with
  | none=>rfl
  | some v=>rw [hf] at this;exact absurd rfl this⟩)
 replace HD:=Aside0.mk (HD.out.below hb0)
 have HG:=Aside0.mk (show w.grownBy w0 (some bd) from (grown_of_below hb0 (some bd)))
 have hc0:=hr0.cnt_le
 have HLF:=Aside0.mk (show ∀ k,left0 k→(fs k).isSome = true from fun k h=>(hl0 k).1 h)
 clear hr0 hl0 hb0 hs0 HS
 obtain ⟨rr,hrr⟩:∃ rr,rr = w.heap.size:=⟨_,rfl⟩
 rw [← hrr] at HR0 ⊢
 have hnd:bd≠rr:=by omega
 have HRR:=Aside0.mk hrr
 clear hrr
 go_loopg [4,5] cnt0 (fun gg s4 s5 wr=>∃ (left:Int→Prop) (cnt:Nat) (g:Int→Option Value),cnt≤gg∧cnt≤cnt0∧Aside0 (MapR wr bs rr ns fs left cnt)∧Aside0 (MapV wr bd (nd + (cnt0 - cnt)) g)∧Aside0 (∀ k,(left k→g k = fd k)∧(¬ left k→g k = (fs k).or (fd k)))∧Aside0 (w.grownBy wr (some bd)))
 case atStart=>exact ⟨left0,cnt0,fd,Nat.le_refl _,Nat.le_refl _,HR0,⟨by rw [Nat.sub_self];exact HD.out⟩,HL0,HG⟩
 case round =>
  clear HR0 HD HL0 HG HLF
  obtain ⟨left,cnt,g,hcg,hcc,HR,HD,HL,HG⟩:=hrel
  go_wp2_with (at_next;refine MapR.next HR.out rfl _ rfl rfl ?_ ?_)
  ·intro hdone
   go_wp2_with fail
   go_end0
   have e:g = fun j=>(fs j).or (fd j):=funext fun k=>(HL.out k).2 (hdone k)
   exact ⟨rfl,by rw [← e];exact HD.out.up (by omega),HR.out.map,HG.out⟩
  ·intro x v w1 cnt1 left1 hwx hlx hfx hr1 hl1 hlt1 hg1 hs1 hen
   have HD1:=Aside0.mk (HD.out.grown hg1 (by simpa using hnd))
   have HR1:=Aside0.mk hr1
   have HG1:=Aside0.mk ((HG.out.andThen hg1 (fun j hj=>.inl (by have:=HRR.out;injection hj with hj;omega))))
   have HL1:=Aside0.mk hl1
   have HFX:=Aside0.mk hfx
   have HLX:=Aside0.mk hlx
   clear HD HR HG hr1 hg1 hs1 hl1 hfx hlx
   go_wp2_with (at_mapUpdate;refine MapV.update HD1.out 78 23 Try.underlying78 rfl _ _ _ rfl rfl (by omega) x v rfl rfl hwx ?_;intro w2 hM2 hG2)
   go_roundg cnt1
   case measure=>omega
   case rel =>
    refine ⟨left1,cnt1,_,Nat.le_refl _,by omega,⟨HR1.out.grown hG2 (by simpa using (fun e=>hne e.symm)) (by simpa using (fun e=>hnd e.symm))⟩,⟨hM2.up (by omega)⟩,⟨fun k=>⟨fun h=>?_,fun h=>?_⟩⟩,⟨HG1.out.andThen hG2 (fun j hj=>.inr hj)⟩⟩
    ·have h2:=(HL1.out k).1 h
     show (if k = x then some v else g k) = _
     rw [if_neg h2.2]
     exact (HL.out k).1 h2.1
    ·show (if k = x then some v else g k) = _
     by_cases e:k = x
     ·rw [if_pos e,e,HFX.out];rfl
     ·rw [if_neg e]
      exact (HL.out k).2 (fun h3=>h ((HL1.out k).2 ⟨h3,e⟩))
theorem fidx_lt {α:Type} (p:α→Bool) (xs:List α) (i:Nat):fidx p xs i < (i + xs.length:Nat) ∨ fidx p xs i = -1:=by
 induction xs generalizing i with
 | nil=>right;rfl
 | cons x xs ih =>
  unfold fidx
  split
  ·left;simp only [List.length_cons];omega
  ·rcases ih (i + 1) with h|h
   ·left;simp only [List.length_cons];omega
   ·right;exact h
theorem sub_inc:∀ (b a:List Int),a.Pairwise (· < ·)→b.Pairwise (· < ·)→(∀ x ∈ a,x ∈ b)→a.Sublist b:=by
 intro b
 induction b with
 | nil =>
  intro a _ _ h
  cases a with
  | nil=>exact List.Sublist.slnil
  | cons x a=>exact absurd (h x (by simp)) (by simp)
 | cons y b ih =>
  intro a ha hb h
  cases a with
  | nil=>exact List.nil_sublist _
  | cons x a =>
   rw [List.pairwise_cons] at ha hb
   by_cases e:x = y
   ·subst e
    refine List.Sublist.cons_cons _ (ih a ha.2 hb.2 fun z hz=>?_)
    rcases List.mem_cons.1 (h z (by simp [hz])) with h1|h1
    ·have:=ha.1 z hz;omega
    ·exact h1
   ·have hx:x ∈ b:=by
     rcases List.mem_cons.1 (h x (by simp)) with h1|h1
     ·exact absurd h1 e
     ·exact h1
    refine List.Sublist.cons _ (ih (x :: a) (List.pairwise_cons.2 ha) hb.2 fun z hz=>?_)
    rcases List.mem_cons.1 (h z hz) with h1|h1
    ·have hyx:=hb.1 x hx
     rcases List.mem_cons.1 hz with h2|h2
     ·omega
     ·have:=ha.1 z h2;omega
    ·exact h1
theorem fidx_mem (l:List S48) (id:Int) (h:¬ fidx (fun o:S48=>o.f0 == id) l 0 < 0):id ∈ l.map S48.f0:=by
 rcases Classical.em (∃ x ∈ l,(fun o:S48=>o.f0 == id) x = true) with h1|h1
 ·obtain ⟨x,hx,he⟩:=h1
  exact List.mem_map.2 ⟨x,hx,by simpa using he⟩
 ·refine absurd ?_ h
  rw [fidx_miss _ l 0 (fun x hx=>Bool.eq_false_iff.2 fun e=>h1 ⟨x,hx,e⟩)]
  omega
theorem pickO_mem {l:List S48} (a:List Int):∀ {b:List Int},pickO l (a ++ b)≠none→∀ id ∈ b,id ∈ l.map S48.f0:=by
 intro b
 induction b generalizing a with
 | nil=>intro _ id hid;simp at hid
 | cons x b ih =>
  intro h id hid
  have e:a ++ x :: b = (a ++ [x]) ++ b:=by simp
  rw [e] at h
  rcases List.mem_cons.1 hid with rfl|h1
  ·by_cases hc:fidx (fun o:S48=>o.f0 == id) l 0 < 0
   ·refine absurd (pickO_none l _ b ?_) h
    rw [pickO_snoc]
    cases pickO l a with
    | none=>rfl
    | some c=>simp [hc]
   ·exact fidx_mem l id hc
  ·exact ih (a ++ [x]) h id h1
theorem pickO_le {l:List S48} {a:List Int} {acc:List S48} (hl:rightB l = true) (ha:incB a = true) (h:pickO l a = some acc):acc.length≤64:=by
 rw [pickO_len h]
 unfold rightB preB at hl
 simp only [Bool.and_eq_true,decide_eq_true_eq] at hl
 have h1:=(sub_inc (l.map S48.f0) a (incB_iff.1 ha) (incB_iff.1 hl.1.2) (pickO_mem [] (by simp [h]))).length_le
 rw [List.length_map] at h1
 omega
set_option maxHeartbeats 4000000 in
set_option maxRecDepth 100000 in
theorem connection_chosen.calls (A0:Option Addr) (c0:Nat) (l0:List S48) (A1:Option Addr) (c1:Nat) (l1:List Int) (A2:Option Addr) (c2:Nat) (l2:List Int) (r1:List S48) (r2:Int) (w:World)
  (hr0:Kd.C k48 w A0 l0.length l0) (hc0:l0.length≤c0) (hr1:Kd.C (Kd.int .i64) w A1 l1.length l1) (hc1:l1.length≤c1) (hr2:Kd.C (Kd.int .i64) w A2 l2.length l2) (hc2:l2.length≤c2) (h:connection_chosen.f l0 l1 l2 = some (r1,r2)) :
  Calls Try.prog 46 #[.slice A0 l0.length c0,.slice A1 l1.length c1,.slice A2 l2.length c2] w fun e w'=>∃ v0_:Value,e = .returned (.tuple #[v0_,.int .i64 r2])∧Kd.R k48 48 w' w.heap.size (fun _=>True) v0_ r1∧Below w.heap.size w w':=by
 have hu48:=Try.underlying48
 have HV:=Aside0.mk (Option.some.inj h)
 clear h
 have HR0:=Aside0.mk hr0
 have HR1:=Aside0.mk hr1
 have hm0:=hr0.2.1
 have hm1:=hr1.2.1
 have HT:=Aside0.mk (right74 A0 c0 l0 w hr0)
 have HS:=Aside0.mk (fun W (hW:Below w.heap.size w W)=>start75 A2 c2 l2 W (Kd.C_below hr2 hW) hc2)
 have HI:=Aside0.mk (fun W (hW:Below w.heap.size w W)=>inc76 A1 c1 l1 W (Kd.C_below hr1 hW) hc1)
 have HX:=Aside0.mk (fun (id:Int) W (hW:Below w.heap.size w W) (B:Nat) (hB:B < W.heap.size) (hcell:W.cell? ⟨B,0,none⟩ = some (.int .i64 id)) =>
  idx77 (fun x=>x.f0 == id) 78 #[.pointer (some ⟨B,0,none⟩)] (enters_of Try.func78 (by kernel_rfl) rfl) A0 c0 l0 W (Kd.C_below hr0 hW) (pred78 id B W hB hcell))
 clear hr0 hr1 hr2
 cases hrt:rightB l0 with
 | false =>
  rw [hrt] at HT HV
  clear hrt
  go_enter Try.func46,Try.ntmps46
  go_wp2_with fail
  refine HT.out.mono ?_
  rintro e w1 ⟨rfl,hb1⟩
  have HB:=Aside0.mk hb1
  clear hb1
  go_wp2_with fail
  go_ret2
  have h2:=HV.out
  rw [Bool.false_and,if_neg (by decide)] at h2
  injection h2 with h3 h4
  subst h3 h4
  exact ⟨_,rfl,Kd.R_nil _ _ _ _ _,HB.out⟩
 | true =>
  have HRT:=Aside0.mk hrt
  rw [hrt] at HT HV
  clear hrt
  cases hst:startB l2 with
  | false =>
   rw [hst] at HS HV
   clear hst
   go_enter Try.func46,Try.ntmps46
   go_wp2_with fail
   refine HT.out.mono ?_
   rintro e w1 ⟨rfl,hb1⟩
   have HB:=Aside0.mk hb1
   clear hb1
   go_wp2_with fail
   refine (HS.out _ HB.out).mono ?_
   rintro e w2 ⟨rfl,hb1⟩
   replace HB:=Aside0.mk (below_then HB.out HB.out.size hb1)
   clear hb1
   go_wp2_with fail
   go_ret2
   have h2:=HV.out
   rw [Bool.and_false,if_neg (by decide)] at h2
   injection h2 with h3 h4
   subst h3 h4
   exact ⟨_,rfl,Kd.R_nil _ _ _ _ _,HB.out⟩
  | true =>
   rw [hst] at HS HV
   clear hst
   rw [Bool.and_true,if_pos rfl] at HV
   cases hin:incB l1 with
   | false =>
    rw [hin] at HI HV
    clear hin
    go_enter Try.func46,Try.ntmps46
    go_wp2_with fail
    refine HT.out.mono ?_
    rintro e w1 ⟨rfl,hb1⟩
    have HB:=Aside0.mk hb1
    clear hb1
    go_wp2_with fail
    refine (HS.out _ HB.out).mono ?_
    rintro e w2 ⟨rfl,hb1⟩
    replace HB:=Aside0.mk (below_then HB.out HB.out.size hb1)
    clear hb1
    go_wp2_with fail
    refine (HI.out _ HB.out).mono ?_
    rintro e w3 ⟨rfl,n,rfl⟩
    go_wp2_with fail
    go_ret2
    have h2:=HV.out
    rw [if_neg (by decide)] at h2
    injection h2 with h3 h4
    subst h3 h4
    exact ⟨_,rfl,Kd.R_nil _ _ _ _ _,HB.out.trans (pw_below_drewN (Below.refl _ _) _)⟩
   | true =>
    have HIN:=Aside0.mk hin
    rw [hin] at HI HV
    clear hin
    rw [if_pos rfl] at HV
    go_enter Try.func46,Try.ntmps46
    go_wp2_with fail
    refine HT.out.mono ?_
    rintro e w1 ⟨rfl,hb1⟩
    have HB:=Aside0.mk hb1
    clear hb1
    go_wp2_with fail
    refine (HS.out _ HB.out).mono ?_
    rintro e w2 ⟨rfl,hb1⟩
    replace HB:=Aside0.mk (below_then HB.out HB.out.size hb1)
    clear hb1
    go_wp2_with fail
    refine (HI.out _ HB.out).mono ?_
    rintro e w3 ⟨rfl,n,rfl⟩
    replace HB:=Aside0.mk (HB.out.trans (pw_below_drewN (Below.refl _ _) n))
    go_wp2_with fail
    clear HT HS HI
    have HO:=Aside0.mk (Kd.R_nil k48 48 (w2.drewN n) w.heap.size (fun _=>True))
    go_loopg [8,10,11,27] l1.length (fun gg s8 s10 s11 s27 wr=>∃ (kk:Nat) (acc:List S48),kk≤l1.length∧l1.length - kk≤gg∧s27 = .int .i64 kk∧Aside0 (pickO l0 (l1.take kk) = some acc)∧Aside0 (Kd.R k48 48 wr w.heap.size (fun _=>True) s8 acc)∧Aside0 (Below w.heap.size w wr))
    case atStart=>exact ⟨0,[],Nat.zero_le _,by omega,rfl,⟨by rw [List.take_zero];rfl⟩,HO,HB⟩
    case round =>
     clear HB HO
     obtain ⟨kk,acc,hkk,hg,rfl,HP,HO,HB⟩:=hrel
     by_cases hlt:kk < l1.length
     ·have hltz:(kk:Int) < (l1.length:Int):=by omega
      obtain ⟨ad,e,h0⟩:=int_at (Kd.C_below HR1.out HB.out) kk hltz
      cases e
      have HG:=Aside0.mk (rd_get l1 kk hlt)
      generalize rdOf 0 l1 (kk:Int) = id at h0 HG
      have hx:=HX.out id (wr.alloc (.cells #[.int .i64 id] 3)) (below_alloc HB.out _) wr.heap.size (by simp) (by simp)
      have HLo:=Aside0.mk (fidx_lo (fun x:S48=>x.f0 == id) l0 0)
      have HHi:=Aside0.mk (fidx_lt (fun x:S48=>x.f0 == id) l0 0)
      have HPS:=Aside0.mk (pickO_snoc l0 (l1.take kk) id)
      rw [← take_snoc_of HG.out,HP.out,Option.bind_some] at HPS
      generalize fidx (fun x:S48=>x.f0 == id) l0 0 = q at hx HLo HHi HPS
      go_wp2_with fail
      refine hx.mono ?_
      rintro e w4 ⟨rfl,hb4⟩
      have hb5:Below wr.heap.size wr w4:=(below_alloc (Below.refl wr.heap.size wr) (.cells #[.int .i64 id] 3)).trans (hb4.mono (by simp))
      replace HO:=Aside0.mk (Kd.R_below HO.out hb5)
      replace HB:=Aside0.mk (below_then HB.out HB.out.size hb5)
      clear hb4 hb5 hx h0
      by_cases hq:q < 0
      ·have hqd:=decide_eq_true hq
       have HQ:=Aside0.mk hq
       go_wp2_with fail
       go_ret2
       have h2:=HV.out
       have h3:=HPS.out
       rw [if_pos HQ.out] at h3
       rw [pickO_no (kk + 1) h3] at h2
       injection h2 with h3 h4
       subst h3 h4
       exact ⟨_,rfl,Kd.R_nil _ _ _ _ _,HB.out⟩
      ·have hqd:=decide_eq_false hq
       have h2:=HPS.out
       rw [if_neg hq] at h2
       have HN:=Aside0.mk h2
       have hq0:0≤q:=by omega
       have hq1:q < (l0.length:Int):=by have:=HHi.out;omega
       have hlen:acc.length≤64:=pickO_le HRT.out (incB_iff.2 ((incB_iff.1 HIN.out).sublist (List.take_sublist kk l1))) HP.out
       obtain ⟨ad2,e,g0,g1,g2,g3,g4,g5,g6⟩:=at_T48 (Kd.C_below HR0.out HB.out) q hq0 hq1
       cases e
       generalize rd_T48 l0 q = x at g0 g1 g2 g3 g4 g5 g6 HN
       have HLn:=Aside0.mk hlen
       clear h2 hlen
       replace hq0:=eq_true hq0
       replace hq1:=eq_true hq1
       go_wp2_with (first|((with_reducible refine gate_builtin (b:=.append) (xs:=#[.tmp 36,.tmp 41]) rfl ?_);at_builtin;refine Kd.R_append k48 (w0:=w) w.heap.size rfl (.tmp 36) (.tmp 41) 22 48 (.agg #[(.int .i64 0),(.int .i64 0),(.int .i64 0),(.int .i64 0),(.string ⟨#[]⟩),(.string ⟨#[]⟩),(.string ⟨#[]⟩)]) 80 rfl Try.underlying22 info48 rfl (by decide) (by omega) u8 acc x [.int .i64 x.f0,.int .i64 x.f1,.int .i64 x.f2,.int .i64 x.f3,.string x.f4.f0,.string x.f4.f1,.string x.f4.f2] (fun _=>True) (fun _=>False) rfl rfl ?aP (fun _ hk=>hk.elim) ?aF ?aO ?aB ?aS ?aL ?_;(case aP=>exact k48_mkM _ _ _ x);(case aB=>exact bx_);(case aF=>exact (fun _ _=>trivial));(case aO=>exact rx_);(case aS=>exact below_size bx_);(case aL=>have:=HLn.out;omega);intro v313 w10 ho hb hg hat;have n0_:=Aside0.mk hb;have n1_:=Aside0.mk ho;clear HB HO;have HB:=n0_;have HO:=n1_;clear n0_ n1_ ho hb hg hat))
       go_roundg (l1.length - (kk + 1))
       case measure=>omega
       case rel=>exact ⟨kk + 1,acc ++ [x],by omega,by omega,by go_num,HN,HO,HB⟩
     ·have hltz:¬ (kk:Int) < (l1.length:Int):=by omega
      replace HP:=Aside0.mk (show pickO l0 l1 = some acc by have h:=HP.out;rwa [List.take_of_length_le (by omega)] at h)
      go_wp2_with fail
      go_ret2
      have h2:=HV.out
      rw [HP.out] at h2
      injection h2 with h3 h4
      subst h3 h4
      exact ⟨_,rfl,HO.out,HB.out⟩
abbrev Ws:=Int→Option (List Int)
def putW (f:Ws) (m:Int) (w:List Int):Ws:=fun j=>if j = m then some w else f j
def stepW (out:Ws) (n:Int) (acc:Ws) (o:S48):Ws :=
 match otherO o n with
 | none=>acc
 | some m=>match out m with
  | some _=>acc
  | none=>match acc m with
   | none=>putW acc m ((out n).getD [] ++ [o.f0])
   | some best=>if cmpL ((out n).getD [] ++ [o.f0]) best < 0 then putW acc m ((out n).getD [] ++ [o.f0]) else acc
def nextW (op:List S48) (out:Ws) (last:List Int):Ws:=last.foldl (fun acc n=>op.foldl (stepW out n) acc) (fun _=>none)
def orW (f g:Ws):Ws:=fun j=>(f j).or (g j)
def insI (x:Int):List Int→List Int
 | []=>[x]
 | y :: r=>if x < y then x :: y :: r else if x = y then y :: r else y :: insI x r
def isort (l:List Int):List Int:=l.foldr insI []
def ends (op:List S48):List Int:=op.map S48.f1 ++ op.map S48.f2
def univ (op:List S48) (from_:List Int):List Int:=isort (from_ ++ ends op)
def keysW (U:List Int) (f:Ws):List Int:=U.filter fun j=>(f j).isSome
def waysN (U:List Int) (op:List S48):Nat→Ws→List Int→Ws
 | 0,out,_=>out
 | k + 1,out,last=>if last = [] then out else waysN U op k (orW (nextW op out last) out) (keysW U (nextW op out last))
def start0 (from_:List Int):Ws:=fun j=>if j ∈ from_ then some [] else none
def waysF (op:List S48) (from_:List Int):Ws:=waysN (univ op from_) op ((univ op from_).length + 2) (start0 from_) from_
theorem insI_mem (x:Int):∀ (l:List Int) (z:Int),z ∈ insI x l ↔ z = x ∨ z ∈ l:=by
 intro l
 induction l with
 | nil=>intro z;simp [insI]
 | cons y r ih =>
  intro z
  unfold insI
  by_cases h:x < y
  ·rw [if_pos h];simp
  ·rw [if_neg h]
   by_cases e:x = y
   ·rw [if_pos e,e];simp
   ·rw [if_neg e,List.mem_cons,ih,List.mem_cons]
    constructor
    ·rintro (h1|h1|h1)<;>simp [h1]
    ·rintro (h1|h1|h1)<;>simp [h1]
theorem insI_inc (x:Int):∀ (l:List Int),l.Pairwise (· < ·)→(insI x l).Pairwise (· < ·):=by
 intro l
 induction l with
 | nil=>intro _;simp [insI]
 | cons y r ih =>
  intro h
  rw [List.pairwise_cons] at h
  unfold insI
  by_cases hl:x < y
  ·rw [if_pos hl]
   refine List.pairwise_cons.2 ⟨fun z hz=>?_,List.pairwise_cons.2 h⟩
   rcases List.mem_cons.1 hz with rfl|h1
   ·exact hl
   ·have:=h.1 z h1;omega
  ·rw [if_neg hl]
   by_cases e:x = y
   ·rw [if_pos e];exact List.pairwise_cons.2 h
   ·rw [if_neg e]
    refine List.pairwise_cons.2 ⟨fun z hz=>?_,ih h.2⟩
    rcases (insI_mem x r z).1 hz with rfl|h1
    ·omega
    ·exact h.1 z h1
theorem insI_len (x:Int):∀ (l:List Int),(insI x l).length≤l.length + 1:=by
 intro l
 induction l with
 | nil=>simp [insI]
 | cons y r ih =>
  unfold insI
  split
  ·simp
  ·split
   ·simp
   ·simp;omega
theorem isort_mem (l:List Int) (z:Int):z ∈ isort l ↔ z ∈ l:=by
 induction l with
 | nil=>simp [isort]
 | cons x l ih =>
  show z ∈ insI x (isort l) ↔ _
  rw [insI_mem,ih,List.mem_cons]
theorem isort_inc (l:List Int):(isort l).Pairwise (· < ·):=by
 induction l with
 | nil=>simp [isort]
 | cons x l ih=>exact insI_inc x _ ih
theorem isort_len (l:List Int):(isort l).length≤l.length:=by
 induction l with
 | nil=>simp [isort]
 | cons x l ih =>
  have:=insI_len x (isort l)
  show (insI x (isort l)).length≤_
  rw [List.length_cons]
  omega
theorem inc_ext {a b:List Int} (ha:a.Pairwise (· < ·)) (hb:b.Pairwise (· < ·)) (h:∀ x,x ∈ a ↔ x ∈ b):a = b :=
 (sub_inc b a ha hb fun x hx=>(h x).1 hx).eq_of_length_le (sub_inc a b hb ha fun x hx=>(h x).2 hx).length_le
theorem keysW_inc (op:List S48) (fr:List Int) (f:Ws):(keysW (univ op fr) f).Pairwise (· < ·):=(isort_inc _).sublist List.filter_sublist
theorem keysW_mem {op:List S48} {fr:List Int} {f:Ws} {k:Int}:k ∈ keysW (univ op fr) f ↔ k ∈ univ op fr∧(f k).isSome = true:=List.mem_filter
theorem keysW_eq {op:List S48} {fr:List Int} {f:Ws} {ss:List Int} (hs:ss.Pairwise (· < ·)) (hm:∀ k,k ∈ ss ↔ (f k).isSome = true) (hU:∀ k,(f k).isSome = true→k ∈ univ op fr):ss = keysW (univ op fr) f :=
 inc_ext hs (keysW_inc op fr f) fun k=>by rw [hm,keysW_mem];exact ⟨fun h=>⟨hU k h,h⟩,fun h=>h.2⟩
theorem otherO_ends {op:List S48} {o:S48} (ho:o ∈ op) {n m:Int} (h:otherO o n = some m):m ∈ ends op:=by
 unfold otherO at h
 unfold ends
 rw [List.mem_append]
 split at h
 ·injection h with h;exact .inr (List.mem_map.2 ⟨o,ho,h⟩)
 ·split at h
  ·injection h with h;exact .inl (List.mem_map.2 ⟨o,ho,h⟩)
  ·cases h
theorem stepW_cases (out:Ws) (n:Int) (acc:Ws) (o:S48):stepW out n acc o = acc ∨ ∃ m,otherO o n = some m∧out m = none∧stepW out n acc o = putW acc m ((out n).getD [] ++ [o.f0]):=by
 unfold stepW
 split
 ·exact .inl rfl
 ·rename_i m hm
  split
  ·exact .inl rfl
  ·rename_i hout
   split
   ·exact .inr ⟨m,hm,hout,rfl⟩
   ·split
    ·exact .inr ⟨m,hm,hout,rfl⟩
    ·exact .inl rfl
theorem fold_keep (out:Ws) (op:List S48) (Q:Int→List Int→Prop) (n:Int) (hQ:∀ o ∈ op,∀ m,otherO o n = some m→out m = none→Q m ((out n).getD [] ++ [o.f0])) :
  ∀ (ops:List S48) (acc:Ws),(∀ o ∈ ops,o ∈ op)→(∀ k l,acc k = some l→Q k l)→∀ k l,ops.foldl (stepW out n) acc k = some l→Q k l:=by
 intro ops
 induction ops with
 | nil=>intro acc _ h;exact h
 | cons o ops ih =>
  intro acc hsub h
  refine ih (stepW out n acc o) (fun x hx=>hsub x (by simp [hx])) fun k l hk=>?_
  rcases stepW_cases out n acc o with e|⟨m,hm,hout,e⟩
  ·rw [e] at hk;exact h k l hk
  ·rw [e] at hk
   unfold putW at hk
   by_cases ek:k = m
   ·rw [if_pos ek] at hk;injection hk with hk;rw [← hk,ek];exact hQ o (hsub o (by simp)) m hm hout
   ·rw [if_neg ek] at hk;exact h k l hk
theorem next_keep (out:Ws) (op:List S48) (Q:Int→List Int→Prop) (last:List Int) (hQ:∀ n ∈ last,∀ o ∈ op,∀ m,otherO o n = some m→out m = none→Q m ((out n).getD [] ++ [o.f0])) :
  ∀ (ls:List Int) (acc:Ws),(∀ n ∈ ls,n ∈ last)→(∀ k l,acc k = some l→Q k l)→∀ k l,ls.foldl (fun acc n=>op.foldl (stepW out n) acc) acc k = some l→Q k l:=by
 intro ls
 induction ls with
 | nil=>intro acc _ h;exact h
 | cons n ls ih =>
  intro acc hsub h
  exact ih _ (fun x hx=>hsub x (by simp [hx])) (fold_keep out op Q n (hQ n (hsub n (by simp))) op acc (fun _ h=>h) h)
theorem nextW_Q {out:Ws} {op:List S48} {last:List Int} (Q:Int→List Int→Prop) (hQ:∀ n ∈ last,∀ o ∈ op,∀ m,otherO o n = some m→out m = none→Q m ((out n).getD [] ++ [o.f0])) {k:Int} {l:List Int} (h:nextW op out last k = some l):Q k l :=
 next_keep out op Q last hQ last (fun _=>none) (fun _ h=>h) (fun _ _ h=>by cases h) k l h
theorem nextW_new {out:Ws} {op:List S48} {last:List Int} {k:Int} {l:List Int} (h:nextW op out last k = some l):out k = none∧k ∈ ends op :=
 nextW_Q (fun k _=>out k = none∧k ∈ ends op) (fun n _ o ho m hm hout=>⟨hout,otherO_ends ho hm⟩) h
theorem univ_ends {op:List S48} {fr:List Int} {k:Int} (h:k ∈ ends op):k ∈ univ op fr:=(isort_mem _ _).2 (List.mem_append.2 (.inr h))
theorem univ_from {op:List S48} {fr:List Int} {k:Int} (h:k ∈ fr):k ∈ univ op fr:=(isort_mem _ _).2 (List.mem_append.2 (.inl h))
theorem univ_len (op:List S48) (fr:List Int):(univ op fr).length≤fr.length + 2 * op.length:=by
 have:=isort_len (fr ++ ends op)
 unfold univ
 simp only [List.length_append,ends,List.length_map] at this ⊢
 omega
def unk (U:List Int) (out:Ws):Nat:=U.countP fun j=>(out j).isNone
theorem countP_lt {α:Type} {p q:α→Bool} {l:List α} (h:∀ x ∈ l,q x = true→p x = true) {x:α} (hx:x ∈ l) (h1:p x = true) (h2:q x = false):l.countP q < l.countP p:=by
 induction l with
 | nil=>simp at hx
 | cons y l ih =>
  rw [List.countP_cons,List.countP_cons]
  have hle:l.countP q≤l.countP p:=List.countP_mono_left fun z hz=>h z (by simp [hz])
  rcases List.mem_cons.1 hx with rfl|hm
  ·rw [h1,h2];simp;omega
  ·have:=ih (fun z hz=>h z (by simp [hz])) hm
   have h3:=h y (by simp)
   by_cases hq:q y = true
   ·rw [hq,h3 hq];simp;omega
   ·rw [if_neg hq];split<;>omega
theorem unk_less {op:List S48} {fr:List Int} {out:Ws} {last:List Int} (h:keysW (univ op fr) (nextW op out last)≠[]):unk (univ op fr) (orW (nextW op out last) out) < unk (univ op fr) out:=by
 obtain ⟨k,hk⟩:=List.exists_mem_of_ne_nil _ h
 rw [keysW_mem] at hk
 obtain ⟨l,hl⟩:=Option.isSome_iff_exists.1 hk.2
 have hn:=nextW_new hl
 refine countP_lt (x:=k) (fun x _ hx=>?_) hk.1 (by rw [hn.1];rfl) ?_
 ·unfold orW at hx
  cases ho:out x with
  | none=>rfl
  | some v=>rw [ho] at hx;cases nextW op out last x<;>simp at hx
 ·unfold orW;rw [hl];rfl
theorem waysN_done (U:List Int) (op:List S48) (k:Nat) (out:Ws):waysN U op k out [] = out:=by
 cases k with
 | zero=>rfl
 | succ k=>unfold waysN;rw [if_pos rfl]
def slices_Clone_int_int.f (xs:List Int):Option (List Int):=if xs.length * 8≤140737488355328 then some xs else none
set_option maxRecDepth 100000 in
theorem slices_Clone_int_int.calls (A0:Option Addr) (c0:Nat) (l0 r:List Int) (w:World) (hr0:Kd.C (Kd.int .i64) w A0 l0.length l0) (hc0:l0.length≤c0) (h:slices_Clone_int_int.f l0 = some r) :
  Calls Try.prog 29 #[.slice A0 l0.length c0] w fun e w'=>∃ v,e = .returned v∧Kd.R (Kd.int .i64) 3 w' w.heap.size (fun _=>True) v r∧Below w.heap.size w w':=by
 unfold slices_Clone_int_int.f at h
 by_cases hc:l0.length * 8≤140737488355328
 case neg=>rw [if_neg hc] at h;cases h
 rw [if_pos hc] at h
 injection h with h
 subst h
 have HC:=Aside0.mk hr0
 clear hr0 hc0
 rcases A0 with _|ad
 ·have hl:l0 = []:=by
   rcases l0 with _|⟨x,l⟩
   ·rfl
   ·obtain ⟨a,ha,_⟩:=HC.out.2.2 (by simp)
    cases ha
  subst hl
  clear hc HC
  have he:∀ W:World,(binOp .eql 23 (.slice none ([]:List Int).length c0) (.slice none 0 0)).run Try.prog W = .ok (.bool true) W:=fun _=>rfl
  simp only [List.length_nil] at he
  go_enter Try.func29,Try.ntmps29
  go_wp2_with fail
  go_ret
  exact ⟨_,rfl,Kd.R_nil _ _ _ _ _,Below.refl _ _⟩
 ·have HH:=Aside0.mk hc
  clear hc
  have HB:=Aside0.mk (Below.refl w.heap.size w)
  have he:∀ W:World,(binOp .eql 23 (.slice (some ad) l0.length c0) (.slice none 0 0)).run Try.prog W = .ok (.bool false) W:=fun _=>rfl
  go_enter Try.func29,Try.ntmps29
  go_wp2_with (first
   | ((with_reducible refine gate_dst (N:=5) rfl ?_);(refine Kd.R_lit ((Kd.int .i64)) (w0:=w) w.heap.size 3 ?hg (N:=5) ?hd (xs:=([]:List Int)) (inner:=[]) (ok:=fun _=>True) (okp:=fun _=>False) ?hr ?hp (fun _ hk=>hk.elim) trivial ?hB ?hS (by simp) ?_);(case hd=>rfl);(case hg=>rfl);(case hr=>first|(go_simp;done)|(go_simp;rfl));(case hp=>exact Reps.none _ _);(case hB=>exact HB.out);(case hS=>exact Nat.le_refl _);intro v1 w1 ho hb hg_ hn_;have HO:=Aside0.mk ho;have HB1:=Aside0.mk hb;have HC1:=Aside0.mk (Kd.C_below HC.out hb);clear ho hb hg_ hn_)
   | ((with_reducible refine gate_builtin (b:=.append) (xs:=#[.tmp 5,.tmp 6]) rfl ?_);at_builtin;(refine Kd.R_append_rows ((Kd.int .i64)) (w0:=w) w.heap.size rfl (.tmp 5) (.tmp 6) 23 3 (.int .i64 0) 8 rfl Try.underlying23 info3 rfl (by decide) (by decide) v1 [] l0 (some ad) l0.length c0 (fun _=>True) (fun _=>False) rfl rfl HO.out HC1.out (fun _ _ h=>h) (fun _ h=>h.elim) (fun _ _=>trivial) HB1.out HB1.out.size ?aL ?_);(case aL=>have:=HH.out;simp only [List.length_nil,Nat.zero_add];exact this);intro v2 w2 ho hb hg_ hat;have HO2:=Aside0.mk ho;have HB2:=Aside0.mk hb;clear ho hb hg_ hat))
  go_ret
  exact ⟨_,rfl,by have h:=HO2.out;rw [List.nil_append] at h;exact h,HB2.out⟩
end Go.Proofs.Ytbfmfflhdphohaa.Pr
namespace Go.Proofs
open Go.Shelf
def Try.keysA_ren:Go.Shelf.Ren:=⟨fun|7=>53|10=>86|n=>n,fun|23=>78|26=>3|3=>23|28=>76|0=>0|27=>75|33=>60|4=>4|n=>n,fun|n=>n⟩
theorem Try.keysA:Go.Proofs.SlLaysZI.n7 Try.prog Try.keysA_ren:={
 mixed:=by kernel_rfl
 f7:=⟨Try.f53.name,by decide,Try.func53.trans (congrArg some (by kernel_rfl))⟩
 f10:=⟨Try.f86.name,by decide,Try.func86.trans (congrArg some (by kernel_rfl))⟩
 t0:=Try.underlying0
 a0:=Try.isAgg0
 z0:=Try.sizeOf0
 v0:=Try.zeroValue0
 t4:=Try.underlying4
 a4:=Try.isAgg4
 z4:=Try.sizeOf4
 v4:=Try.zeroValue4
 t23:=Try.underlying78
 a23:=Try.isAgg78
 z23:=Try.sizeOf78
 v23:=Try.zeroValue78
 t26:=Try.underlying3
 a26:=Try.isAgg3
 z26:=Try.sizeOf3
 v26:=Try.zeroValue3
 t27:=Try.underlying75
 a27:=Try.isAgg75
 z27:=Try.sizeOf75
 v27:=Try.zeroValue75
 t28:=Try.underlying76
 a28:=Try.isAgg76
 z28:=Try.sizeOf76
 v28:=Try.zeroValue76
 t33:=Try.underlying60
 a33:=Try.isAgg60
 z33:=Try.sizeOf60
 v33:=Try.zeroValue60 }
def Try.keysB_ren:Go.Shelf.Ren:=⟨fun|7=>57|10=>90|n=>n,fun|23=>43|26=>3|3=>4|28=>76|0=>0|27=>75|33=>60|4=>4|n=>n,fun|n=>n⟩
theorem Try.keysB:Go.Proofs.SlLaysZI.n7 Try.prog Try.keysB_ren:={
 mixed:=by kernel_rfl
 f7:=⟨Try.f57.name,by decide,Try.func57.trans (congrArg some (by kernel_rfl))⟩
 f10:=⟨Try.f90.name,by decide,Try.func90.trans (congrArg some (by kernel_rfl))⟩
 t0:=Try.underlying0
 a0:=Try.isAgg0
 z0:=Try.sizeOf0
 v0:=Try.zeroValue0
 t4:=Try.underlying4
 a4:=Try.isAgg4
 z4:=Try.sizeOf4
 v4:=Try.zeroValue4
 t23:=Try.underlying43
 a23:=Try.isAgg43
 z23:=Try.sizeOf43
 v23:=Try.zeroValue43
 t26:=Try.underlying3
 a26:=Try.isAgg3
 z26:=Try.sizeOf3
 v26:=Try.zeroValue3
 t27:=Try.underlying75
 a27:=Try.isAgg75
 z27:=Try.sizeOf75
 v27:=Try.zeroValue75
 t28:=Try.underlying76
 a28:=Try.isAgg76
 z28:=Try.sizeOf76
 v28:=Try.zeroValue76
 t33:=Try.underlying60
 a33:=Try.isAgg60
 z33:=Try.sizeOf60
 v33:=Try.zeroValue60 }
def Try.sortedA_ren:Go.Shelf.Ren:=⟨fun|6=>52|8=>85|9=>38|11=>109|13=>71|12=>70|23=>104|24=>105|14=>96|15=>97|16=>98|17=>99|18=>100|19=>101|20=>68|21=>102|22=>103|25=>114|26=>115|27=>116|28=>117|29=>118|30=>95|31=>120|n=>n,fun|26=>3|28=>76|24=>23|0=>0|3=>3|37=>96|48=>120|50=>122|4=>4|40=>115|39=>114|45=>100|5=>5|9=>9|51=>132|55=>136|57=>138|58=>139|33=>60|n=>n,fun|n=>n⟩
theorem Try.sortedA:Go.Proofs.SlLaysZI.n6 Try.prog Try.sortedA_ren:={
 mixed:=by kernel_rfl
 f6:=⟨Try.f52.name,by decide,Try.func52.trans (congrArg some (by kernel_rfl))⟩
 f8:=⟨Try.f85.name,by decide,Try.func85.trans (congrArg some (by kernel_rfl))⟩
 f11:=⟨Try.f109.name,by decide,Try.func109.trans (congrArg some (by kernel_rfl))⟩
 t0:=Try.underlying0
 a0:=Try.isAgg0
 z0:=Try.sizeOf0
 v0:=Try.zeroValue0
 t24:=Try.underlying23
 a24:=Try.isAgg23
 z24:=Try.sizeOf23
 v24:=Try.zeroValue23
 t26:=Try.underlying3
 a26:=Try.isAgg3
 z26:=Try.sizeOf3
 v26:=Try.zeroValue3
 t28:=Try.underlying76
 a28:=Try.isAgg76
 z28:=Try.sizeOf76
 v28:=Try.zeroValue76
 i26:=by kernel_rfl }
def Try.sortA_ren:Go.Shelf.Ren:=⟨fun|5=>38|8=>71|7=>70|19=>104|20=>105|10=>96|11=>97|12=>98|13=>99|14=>100|15=>101|16=>68|17=>102|18=>103|30=>114|31=>115|32=>116|33=>117|34=>118|35=>95|40=>120|n=>n,fun|23=>23|25=>3|3=>3|32=>96|22=>23|0=>0|44=>120|46=>122|4=>4|36=>115|35=>114|41=>100|5=>5|9=>9|53=>132|57=>136|63=>138|64=>139|n=>n,fun|n=>n⟩
theorem Try.sortA:Go.Proofs.SlLaysM.n5 Try.prog Try.sortA_ren:={
 mixed:=by kernel_rfl
 f5:=⟨Try.f38.name,by decide,Try.func38.trans (congrArg some (by kernel_rfl))⟩
 f7:=⟨Try.f70.name,by decide,Try.func70.trans (congrArg some (by kernel_rfl))⟩
 f8:=Try.func71.trans (congrArg some (by kernel_rfl))
 f10:=⟨Try.f96.name,by decide,Try.func96.trans (congrArg some (by kernel_rfl))⟩
 f11:=⟨Try.f97.name,by decide,Try.func97.trans (congrArg some (by kernel_rfl))⟩
 f12:=⟨Try.f98.name,by decide,Try.func98.trans (congrArg some (by kernel_rfl))⟩
 f13:=⟨Try.f99.name,by decide,Try.func99.trans (congrArg some (by kernel_rfl))⟩
 f14:=⟨Try.f100.name,by decide,Try.func100.trans (congrArg some (by kernel_rfl))⟩
 f15:=⟨Try.f101.name,by decide,Try.func101.trans (congrArg some (by kernel_rfl))⟩
 f16:=⟨Try.f68.name,by decide,Try.func68.trans (congrArg some (by kernel_rfl))⟩
 f17:=⟨Try.f102.name,by decide,Try.func102.trans (congrArg some (by kernel_rfl))⟩
 f18:=⟨Try.f103.name,by decide,Try.func103.trans (congrArg some (by kernel_rfl))⟩
 f19:=Try.func104.trans (congrArg some (by kernel_rfl))
 f20:=Try.func105.trans (congrArg some (by kernel_rfl))
 f30:=⟨Try.f114.name,by decide,Try.func114.trans (congrArg some (by kernel_rfl))⟩
 f31:=Try.func115.trans (congrArg some (by kernel_rfl))
 f32:=Try.func116.trans (congrArg some (by kernel_rfl))
 f33:=⟨Try.f117.name,by decide,Try.func117.trans (congrArg some (by kernel_rfl))⟩
 f34:=⟨Try.f118.name,by decide,Try.func118.trans (congrArg some (by kernel_rfl))⟩
 f35:=⟨Try.f95.name,by decide,Try.func95.trans (congrArg some (by kernel_rfl))⟩
 f40:=⟨Try.f120.name,by decide,Try.func120.trans (congrArg some (by kernel_rfl))⟩
 t0:=Try.underlying0
 a0:=Try.isAgg0
 z0:=Try.sizeOf0
 v0:=Try.zeroValue0
 t3:=Try.underlying3
 a3:=Try.isAgg3
 z3:=Try.sizeOf3
 v3:=Try.zeroValue3
 t4:=Try.underlying4
 a4:=Try.isAgg4
 z4:=Try.sizeOf4
 v4:=Try.zeroValue4
 t5:=Try.underlying5
 a5:=Try.isAgg5
 z5:=Try.sizeOf5
 v5:=Try.zeroValue5
 t9:=Try.underlying9
 a9:=Try.isAgg9
 z9:=Try.sizeOf9
 v9:=Try.zeroValue9
 t22:=Try.underlying23
 a22:=Try.isAgg23
 z22:=Try.sizeOf23
 v22:=Try.zeroValue23
 t23:=Try.underlying23
 a23:=Try.isAgg23
 z23:=Try.sizeOf23
 v23:=Try.zeroValue23
 t25:=Try.underlying3
 a25:=Try.isAgg3
 z25:=Try.sizeOf3
 v25:=Try.zeroValue3
 t32:=Try.underlying96
 a32:=Try.isAgg96
 z32:=Try.sizeOf96
 v32:=Try.zeroValue96
 t35:=Try.underlying114
 a35:=Try.isAgg114
 z35:=Try.sizeOf114
 v35:=Try.zeroValue114
 t36:=Try.underlying115
 a36:=Try.isAgg115
 z36:=Try.sizeOf115
 v36:=Try.zeroValue115
 t41:=Try.underlying100
 a41:=Try.isAgg100
 z41:=Try.sizeOf100
 v41:=Try.zeroValue100
 t44:=Try.underlying120
 a44:=Try.isAgg120
 z44:=Try.sizeOf120
 v44:=Try.zeroValue120
 t46:=Try.underlying122
 a46:=Try.isAgg122
 z46:=Try.sizeOf122
 v46:=Try.zeroValue122
 t53:=Try.underlying132
 a53:=Try.isAgg132
 z53:=Try.sizeOf132
 v53:=Try.zeroValue132
 t57:=Try.underlying136
 a57:=Try.isAgg136
 z57:=Try.sizeOf136
 v57:=Try.zeroValue136
 t63:=Try.underlying138
 a63:=Try.isAgg138
 z63:=Try.sizeOf138
 v63:=Try.zeroValue138
 t64:=Try.underlying139
 a64:=Try.isAgg139
 z64:=Try.sizeOf139
 v64:=Try.zeroValue139 }
end Go.Proofs
namespace Go.Proofs.Ytbfmfflhdphohaa.Pr
open Go.RowKit Go.Maps Go.Sort Go.Shelf Go.Proofs.YtbfmfflhdphohaaW.PrintWords Go.Proofs.YtbfmfflhdphohaaW.PrintLast Go.Proofs.YtbfmfflhdphohaaW.PrintMore
theorem intKeys_mem {W:World} {b n:Nat} {D:DataW Value} (h:W.ownsMap Try.prog 3 Rv b n D):(intKeys D).Nodup∧∀ x,x ∈ intKeys D ↔ Maps.has D (.int .i64 x) = true:=by
 obtain ⟨es,hD,hpw,_⟩:=h.entries key3
 obtain ⟨es',hD',hko⟩:=h.keysOf
 obtain rfl:es = es':=by rw [hD] at hD';simpa using hD'
 subst hD
 have hk:∀ p ∈ es,∃ x:Int,p.1 = .int .i64 x:=fun p hp=>by
  obtain ⟨v,hv⟩:=hko p hp
  obtain ⟨x,_,hx,_⟩:=Maps.keyOf_i64 Try.underlying3 hv
  exact ⟨x,hx⟩
 refine ⟨?_,fun x=>?_⟩
 ·show (es.map fun p=>Go.intOf p.1).Nodup
  refine List.pairwise_map.2 (hpw.imp_of_mem fun {p q} hp hq hne e=>hne ?_)
  obtain ⟨a,ha⟩:=hk p hp
  obtain ⟨c,hc⟩:=hk q hq
  rw [ha,hc] at e ⊢
  exact congrArg _ e
 ·rw [Maps.has_eq,List.any_eq_true]
  show x ∈ es.map (fun p=>Go.intOf p.1) ↔ _
  rw [List.mem_map]
  constructor
  ·rintro ⟨p,hp,rfl⟩
   obtain ⟨a,ha⟩:=hk p hp
   exact ⟨p,hp,by rw [ha];simp [Lit.sameKey,Go.intOf]⟩
  ·rintro ⟨p,hp,hs⟩
   obtain ⟨a,ha⟩:=hk p hp
   rw [ha] at hs
   exact ⟨p,hp,by rw [ha];simpa [Lit.sameKey,Go.intOf] using hs⟩
theorem sorted_strict {ss:List Int} (hn:ss.Nodup):(ss.mergeSort fun x y=>decide (x≤y)).Pairwise (· < ·):=by
 have tr:∀ a b c:Int,decide (a≤b) = true→decide (b≤c) = true→decide (a≤c) = true:=fun a b c h1 h2=>by simp only [decide_eq_true_eq] at *;omega
 have tt:∀ a b:Int,(decide (a≤b) || decide (b≤a)) = true:=fun a b=>by simp only [Bool.or_eq_true,decide_eq_true_eq];omega
 have h1:=List.pairwise_mergeSort tr tt ss
 have h2:(ss.mergeSort fun x y=>decide (x≤y)).Nodup:=(List.mergeSort_perm ss _).nodup_iff.2 hn
 have h3:=h1.and h2
 refine h3.imp fun {a b} h=>?_
 have:=of_decide_eq_true h.1
 have:=h.2
 omega
theorem SortsT (m:Nat):AnyZI.SortsIn Try.prog Try.sortedA_ren Fence.wide m :=
  ⟨fun blk off cap ss W hH hblk hsz=>callsIn_wide.2 (AnyM.slices_Sort_int Try.sortA blk off cap ss W hH hblk hsz),
   fun p cap W=>callsIn_wide.2 (AnyM.slices_Sort_int_none Try.sortA p cap W)⟩
theorem keys53 (mb:Option Nat) (w:World):Calls Try.prog 53 #[.map mb] w fun e w'=>e = .returned (.func (.func 86) #[] #[.pointer (some ⟨w.heap.size,0,none⟩)])∧w' = w.alloc (.cells #[.map mb] 78) :=
 callsIn_wide.1 (AnyZI.keys_in Try.keysA Fence.wide 5 trivial rfl mb w)
theorem keys57 (mb:Option Nat) (w:World):Calls Try.prog 57 #[.map mb] w fun e w'=>e = .returned (.func (.func 90) #[] #[.pointer (some ⟨w.heap.size,0,none⟩)])∧w' = w.alloc (.cells #[.map mb] 43) :=
 callsIn_wide.1 (AnyZI.keys_in Try.keysB Fence.wide 5 trivial rfl mb w)
def KeysOut (w:World) (n:Nat) (f:Int→Option Value) (e:Ending) (w':World):Prop :=
 ∃ (v:Value) (ss:List Int),e = .returned v∧ss.Pairwise (· < ·)∧(∀ k,k ∈ ss ↔ (f k).isSome = true)∧ss.length≤n∧Kd.R (Kd.int .i64) 3 w' w.heap.size (fun _=>True) v ss∧Below w.heap.size w w'
theorem sorted_end {w:World} {b n:Nat} {f:Int→Option Value} {D:DataW Value} {W0:World} (hown:W0.ownsMap Try.prog 3 Rv b n D) (hD:Gives D f) {v:Value} {ss:List Int} {e:Ending} {w':World} (hw:w.heap.size≤W0.heap.size)
  (he:e = .returned v) (hS:ss.Perm (intKeys D)) (hrow:w'.ownsRow w.heap.size 3 1 v ss.length ((ss.mergeSort (fun x y=>decide (x≤y))).map encZ)) (hb:Below w.heap.size w w'):KeysOut w n f e w':=by
 obtain ⟨hnd,hmem⟩:=intKeys_mem hown
 have hss:=hS.nodup_iff.2 hnd
 have hp:=List.mergeSort_perm ss (fun x y=>decide (x≤y))
 refine ⟨v,ss.mergeSort (fun x y=>decide (x≤y)),he,sorted_strict hss,fun k=>?_,?_,?_,hb⟩
 ·rw [hp.mem_iff,hS.mem_iff,hmem]
  constructor
  ·intro h
   have hk:wfI k:=by
    have:=intKeys_wf hown Try.underlying3 k ((hmem k).2 h)
    exact this
   rw [hD.has hk] at h
   exact h
  ·intro h
   have hk:wfI k:=hD.2 k (fun e=>by rw [e] at h;cases h)
   rw [hD.has hk]
   exact h
 ·rw [hp.length_eq,hS.length_eq]
  have h1:=hown.size_le
  have h2:(intKeys D).length = Maps.size D:=by
   obtain ⟨es,rfl,_⟩:=hown.keysOf
   simp [intKeys,Maps.size]
  omega
 ·refine Kd.R_of_own ?_ (fun _ _=>trivial)
  rw [hp.length_eq]
  exact hrow
theorem sorted52A (w:World) (b n:Nat) (f:Int→Option Value) (h:MapV w b n f) (hn:n≤1000000000) :
  Calls Try.prog 52 #[.func (.func 86) #[] #[.pointer (some ⟨w.heap.size,0,none⟩)]] (w.alloc (.cells #[.map (some b)] 78)) (KeysOut (w.alloc (.cells #[.map (some b)] 78)) n f):=by
 obtain ⟨D,hown,hD⟩:=h
 have hbl:=hown.lt
 have hsz:=hown.size_le
 have hown1:(w.alloc (.cells #[.map (some b)] 78)).ownsMap Try.prog 3 Rv b n D:=hown.alloc _
 have hseq:SeqGives Fence.wide 2 Try.prog 86 #[.pointer (some ⟨w.heap.size,0,none⟩)] encZ (fun ss=>ss.Perm (intKeys D)) (Maps.size D) (w.alloc (.cells #[.map (some b)] 78)) :=
  AnyZI.keys_gives (ρ:=Try.keysA_ren) { Try.keysA with } Fence.wide _ trivial rfl (by omega) w.heap.size b n D _ (by simp) (by simp) hown1
 have cS:=AnyZI.sorted_in Try.sortedA Fence.wide 5 trivial trivial trivial trivial rfl (by omega) (SortsT _) (enters_of Try.func38 (by kernel_rfl) rfl) 86 #[.pointer (some ⟨w.heap.size,0,none⟩)] trivial (enters_of Try.func86 (by kernel_rfl) rfl) _ _ (by unfold maxLen;omega) (by omega) _ hseq
 change CallsIn _ _ Try.prog 52 _ _ _ at cS
 refine (callsIn_wide.1 cS).mono ?_
 rintro e w' ⟨v,ss,he,hS,hrow,hnil,hb⟩
 exact sorted_end hown1 hD (Nat.le_refl _) he hS hrow hb
theorem sorted52B (w:World) (b n:Nat) (f:Int→Option Value) (h:MapV w b n f) (hn:n≤1000000000) :
  Calls Try.prog 52 #[.func (.func 90) #[] #[.pointer (some ⟨w.heap.size,0,none⟩)]] (w.alloc (.cells #[.map (some b)] 43)) (KeysOut (w.alloc (.cells #[.map (some b)] 43)) n f):=by
 obtain ⟨D,hown,hD⟩:=h
 have hbl:=hown.lt
 have hsz:=hown.size_le
 have hown1:(w.alloc (.cells #[.map (some b)] 43)).ownsMap Try.prog 3 Rv b n D:=hown.alloc _
 have hseq:SeqGives Fence.wide 2 Try.prog 90 #[.pointer (some ⟨w.heap.size,0,none⟩)] encZ (fun ss=>ss.Perm (intKeys D)) (Maps.size D) (w.alloc (.cells #[.map (some b)] 43)) :=
  AnyZI.keys_gives (ρ:=Try.keysB_ren) { Try.keysB with } Fence.wide _ trivial rfl (by omega) w.heap.size b n D _ (by simp) (by simp) hown1
 have cS:=AnyZI.sorted_in Try.sortedA Fence.wide 5 trivial trivial trivial trivial rfl (by omega) (SortsT _) (enters_of Try.func38 (by kernel_rfl) rfl) 90 #[.pointer (some ⟨w.heap.size,0,none⟩)] trivial (enters_of Try.func90 (by kernel_rfl) rfl) _ _ (by unfold maxLen;omega) (by omega) _ hseq
 change CallsIn _ _ Try.prog 52 _ _ _ at cS
 refine (callsIn_wide.1 cS).mono ?_
 rintro e w' ⟨v,ss,he,hS,hrow,hnil,hb⟩
 exact sorted_end hown1 hD (Nat.le_refl _) he hS hrow hb
end Go.Proofs.Ytbfmfflhdphohaa.Pr
namespace Go.Proofs.Ytbfmfflhdphohaa.Pr
open Go.RowKit Go.Proofs.YtbfmfflhdphohaaW.PrintWords Go.Proofs.YtbfmfflhdphohaaW.PrintLast Go.Proofs.YtbfmfflhdphohaaW.PrintMore
abbrev RI (W:World) (B:Nat) (v:Value) (l:List Int):Prop:=Kd.R (Kd.int .i64) 3 W B (fun _=>True) v l
def WayR (W:World) (B:Nat) (f:Int→Option Value) (g:Ws) (L:Nat):Prop :=
 ∀ k,match g k with|none=>f k = none|some l=>(∃ v,f k = some v∧RI W B v l)∧l.length≤L
theorem WayR.none_ {W:World} {B:Nat} {f:Int→Option Value} {g:Ws} {L:Nat} (h:WayR W B f g L) {k:Int} (hk:g k = none):f k = none:=by
 have:=h k;rw [hk] at this;exact this
theorem WayR.some_ {W:World} {B:Nat} {f:Int→Option Value} {g:Ws} {L:Nat} (h:WayR W B f g L) {k:Int} {l:List Int} (hk:g k = some l):(∃ v,f k = some v∧RI W B v l)∧l.length≤L:=by
 have:=h k;rw [hk] at this;exact this
theorem WayR.mk_ {W:World} {B:Nat} {f:Int→Option Value} {g:Ws} {L:Nat} (h1:∀ k,g k = none→f k = none) (h2:∀ k l,g k = some l→(∃ v,f k = some v∧RI W B v l)∧l.length≤L):WayR W B f g L:=fun k=>by
 cases hk:g k with
 | none=>exact h1 k hk
 | some l=>exact h2 k l hk
theorem WayR.move {W W1:World} {B:Nat} {f:Int→Option Value} {g:Ws} {L:Nat} (h:WayR W B f g L) (hr:∀ v l,RI W B v l→RI W1 B v l):WayR W1 B f g L :=
 .mk_ (fun k hk=>h.none_ hk) (fun k l hk=>by
  obtain ⟨⟨v,hv,hR⟩,hl⟩:=h.some_ hk
  exact ⟨⟨v,hv,hr v l hR⟩,hl⟩)
theorem WayR.below {W W1:World} {B:Nat} {f:Int→Option Value} {g:Ws} {L:Nat} (h:WayR W B f g L) (hb:Below W.heap.size W W1):WayR W1 B f g L:=h.move fun v l hR=>Kd.R_below hR hb
theorem WayR.map {W W1:World} {B b n:Nat} {f f2:Int→Option Value} {g:Ws} {L:Nat} (h:WayR W B f g L) (hm:MapV W b n f2) (hg:W.grownBy W1 (some b)):WayR W1 B f g L:=h.move fun v l hR=>R_map hR hm hg
theorem WayR.up {W:World} {B:Nat} {f:Int→Option Value} {g:Ws} {L M:Nat} (h:WayR W B f g L) (hl:L≤M):WayR W B f g M :=
 .mk_ (fun k hk=>h.none_ hk) (fun k l hk=>by
  obtain ⟨hv,h2⟩:=h.some_ hk
  exact ⟨hv,by omega⟩)
theorem WayR.put {W:World} {B:Nat} {f:Int→Option Value} {g:Ws} {L:Nat} (h:WayR W B f g L) (k:Int) {v:Value} {l:List Int} (hR:RI W B v l) (hl:l.length≤L):WayR W B (fun j=>if j = k then some v else f j) (putW g k l) L :=
 .mk_ (fun j hj=>by
  unfold putW at hj
  by_cases e:j = k
  ·rw [if_pos e] at hj;cases hj
  ·rw [if_neg e] at hj
   show (if j = k then some v else f j) = none
   rw [if_neg e];exact h.none_ hj) (fun j m hj=>by
  unfold putW at hj
  by_cases e:j = k
  ·rw [if_pos e] at hj
   injection hj with hj
   subst hj
   exact ⟨⟨v,if_pos e,hR⟩,hl⟩
  ·rw [if_neg e] at hj
   obtain ⟨⟨u,hu,hR2⟩,h2⟩:=h.some_ hj
   exact ⟨⟨u,(if_neg e).trans hu,hR2⟩,h2⟩)
theorem WayR.or_ {W:World} {B:Nat} {f f2:Int→Option Value} {g g2:Ws} {L:Nat} (h:WayR W B f g L) (h2:WayR W B f2 g2 L):WayR W B (fun j=>(f j).or (f2 j)) (orW g g2) L :=
 .mk_ (fun j hj=>by
  unfold orW at hj
  cases e:g j with
  | some l=>rw [e] at hj;cases hj
  | none =>
   rw [e] at hj
   show (f j).or (f2 j) = none
   rw [h.none_ e]
   exact h2.none_ hj) (fun j m hj=>by
  unfold orW at hj
  cases e:g j with
  | some l =>
   rw [e] at hj
   have hlm:l = m:=by simpa using hj
   subst hlm
   obtain ⟨⟨v,hv,hR⟩,hl⟩:=h.some_ e
   exact ⟨⟨v,by show (f j).or (f2 j) = _;rw [hv];rfl,hR⟩,hl⟩
  | none =>
   rw [e] at hj
   obtain ⟨⟨v,hv,hR⟩,hl⟩:=h2.some_ (show g2 j = some m from hj)
   exact ⟨⟨v,by show (f j).or (f2 j) = _;rw [h.none_ e];exact hv,hR⟩,hl⟩)
theorem WayR.isSome {W:World} {B:Nat} {f:Int→Option Value} {g:Ws} {L:Nat} (h:WayR W B f g L) (k:Int):(f k).isSome = (g k).isSome:=by
 cases e:g k with
 | none=>rw [h.none_ e];rfl
 | some l=>obtain ⟨⟨v,hv,_⟩,_⟩:=h.some_ e;rw [hv];rfl
theorem WayR.read {W:World} {B:Nat} {f:Int→Option Value} {g:Ws} {L:Nat} (h:WayR W B f g L) (k:Int):∃ A c,(f k).getD (.slice none 0 0) = .slice A ((g k).getD []).length c∧((g k).getD []).length≤c∧Kd.C (Kd.int .i64) W A ((g k).getD []).length ((g k).getD []):=by
 cases e:g k with
 | none =>
  rw [h.none_ e]
  exact ⟨none,0,rfl,Nat.le_refl _,rfl,by simp,fun h=>absurd h (by simp)⟩
 | some l =>
  obtain ⟨⟨v,hv,hR⟩,_⟩:=h.some_ e
  obtain ⟨A,c,e2,hl,hC⟩:=Kd.R_reads hR
  rw [hv]
  exact ⟨A,c,e2,hl,hC⟩
theorem start0_snoc (a:List Int) (x:Int):start0 (a ++ [x]) = putW (start0 a) x []:=by
 funext j
 unfold start0 putW
 by_cases e:j = x
 ·simp [e]
 ·simp [e]
theorem C_one {W:World} {g:Nat} {x:Int} (h:W.heap[g]? = some (.cells #[.int .i64 x] 3 (0,0))):Kd.C (Kd.int .i64) W (some ⟨g,0,none⟩) 1 [x]:=by
 refine ⟨rfl,by omega,fun _=>⟨_,rfl,fun j p hj=>?_⟩⟩
 cases j with
 | succ j=>simp at hj
 | zero =>
  have hp:x = p:=by simpa using hj
  subst hp
  refine ⟨[.int .i64 x],rfl,rfl,fun i u hi=>?_⟩
  cases i with
  | succ i=>simp at hi
  | zero =>
   have hu:Value.int .i64 x = u:=by simpa using hi
   subst hu
   rw [add_plain]
   exact blk_cell h 0
theorem RI_C {W:World} {B:Nat} {A:Option Addr} {c:Nat} {l:List Int} (h:RI W B (.slice A l.length c) l):l.length≤c∧Kd.C (Kd.int .i64) W A l.length l:=by
 obtain ⟨A',c',e,hl,hC⟩:=Kd.R_reads h
 injection e with e1 e2 e3
 subst e1 e3
 exact ⟨hl,hC⟩
theorem other_none {o:S48} {n:Int} (h:otherO o n = none) (w:World) :
  Calls Try.prog 80 #[.agg #[.int .i64 o.f0,.int .i64 o.f1,.int .i64 o.f2,.int .i64 o.f3,.string o.f4.f0,.string o.f4.f1,.string o.f4.f2],.int .i64 n] w fun e w'=>e = .returned (.tuple #[.int .i64 0,.bool false])∧Below w.heap.size w w':=by
 have:=other80 o n w
 rw [h] at this
 exact this
theorem other_some {o:S48} {n m:Int} (h:otherO o n = some m) (w:World) :
  Calls Try.prog 80 #[.agg #[.int .i64 o.f0,.int .i64 o.f1,.int .i64 o.f2,.int .i64 o.f3,.string o.f4.f0,.string o.f4.f1,.string o.f4.f2],.int .i64 n] w fun e w'=>e = .returned (.tuple #[.int .i64 m,.bool true])∧Below w.heap.size w w':=by
 have:=other80 o n w
 rw [h] at this
 exact this
section
variable {ops : Array Oper} {rest : List Oper} {o : Oper} {a : Act} {Q : Exit → Act → World → Prop}
theorem MapV.lookup_some {W:World} {b n:Nat} {f:Int→Option Value} (h:MapV W b n f) {k:Int} {v:Value} (hf:f k = some v) (t e:TypeId) (z:Value) (ht:Try.prog.underlying t = some (.map 3 e)) (hz:∀ w,(zeroValue e).run Try.prog w = .ok z w)
  (hg:o.guard = none) (m x:Operand) (hop:o.op = Op.lookup t m x true) (hm:a.eval m = .map (some b)) (hx:a.eval x = .int .i64 k) (hk:wfI k)
  (hK:wpList Try.prog ops Q rest (a.put o.dst (.tuple #[v,.bool true])) W):wpList Try.prog ops Q (o :: rest) a W:=by
 refine h.lookup_ok t e z ht hz hg m x hop hm k hx hk ?_
 rw [hf]
 exact hK
theorem MapV.lookup_none {W:World} {b n:Nat} {f:Int→Option Value} (h:MapV W b n f) {k:Int} (hf:f k = none) (t e:TypeId) (z:Value) (ht:Try.prog.underlying t = some (.map 3 e)) (hz:∀ w,(zeroValue e).run Try.prog w = .ok z w)
  (hg:o.guard = none) (m x:Operand) (hop:o.op = Op.lookup t m x true) (hm:a.eval m = .map (some b)) (hx:a.eval x = .int .i64 k) (hk:wfI k)
  (hK:wpList Try.prog ops Q rest (a.put o.dst (.tuple #[z,.bool false])) W):wpList Try.prog ops Q (o :: rest) a W:=by
 refine h.lookup_ok t e z ht hz hg m x hop hm k hx hk ?_
 rw [hf]
 exact hK
theorem MapV.run_lookup {W:World} {b n:Nat} {f:Int→Option Value} (h:MapV W b n f) (t e:TypeId) (z:Value) (ht:Try.prog.underlying t = some (.map 3 e)) (hz:∀ w,(zeroValue e).run Try.prog w = .ok z w) (k:Int) (hk:wfI k) :
  (Instr.lookup t (.map (some b)) (.int .i64 k) false).run Try.prog W = .ok ((f k).getD z) W:=by
 obtain ⟨D,hown,hD⟩:=h
 obtain ⟨v,ps,hrun,hv⟩:=hown.lookup key3 ht (hz W) (zd:=.held z) (zp:=[]) rfl (Maps.keyOf_int_mk Try.underlying3 hk)
 rw [hD.1 k hk] at hv
 have e1:v = (f k).getD z:=by
  have h1:DataW.held v = (match f k with|some v=>DataW.held v|none=>DataW.held z):=congrArg Prod.fst (Option.some.inj hv)
  cases hf:f k with
  | none=>rw [hf] at h1;exact DataW.held.inj h1
  | some y=>rw [hf] at h1;exact DataW.held.inj h1
 rw [← e1]
 exact hrun
end
theorem wfI_0:wfI 0:=wfI_of (by omega) (by omega)
def WaysOut (w:World) (g:Ws) (e:Ending) (w':World):Prop :=
 ∃ (b n:Nat) (f:Int→Option Value),e = .returned (.map (some b))∧n≤1000000000∧MapV w' b n f∧WayR w' w.heap.size f g 1000∧Below w.heap.size w w'
theorem zero23 (w:World):(zeroValue 23).run Try.prog w = .ok (.slice none 0 0) w:=by kernel_rfl
set_option maxHeartbeats 8000000 in
set_option maxRecDepth 100000 in
theorem ways54 (A0:Option Addr) (c0:Nat) (op:List S48) (A1:Option Addr) (c1:Nat) (fr:List Int) (w:World)
  (hr0:Kd.C k48 w A0 op.length op) (hc0:op.length≤c0) (hr1:Kd.C (Kd.int .i64) w A1 fr.length fr) (hc1:fr.length≤c1) (ho:op.length≤64) (hf:fr.length≤64) (hk:∀ k ∈ univ op fr,wfI k) :
  Calls Try.prog 54 #[.slice A0 op.length c0,.slice A1 fr.length c1] w (WaysOut w (waysF op fr)):=by
 have hu48:=Try.underlying48
 have HR0:=Aside0.mk hr0
 have HR1:=Aside0.mk hr1
 have HC1:=Aside0.mk hc1
 have HK:=Aside0.mk hk
 have HUL:=Aside0.mk (univ_len op fr)
 clear hr0 hc0 hr1 hc1 hk
 have HB:=Aside0.mk (Below.refl w.heap.size w)
 go_enter Try.func54,Try.ntmps54
 go_wp2_with ((with_reducible refine gate_dst (N:=21) rfl ?_);refine makeMap_event 78 rfl rfl ?_;intro bo hbo w1 hM1 hB1;have hbw:w.heap.size≤bo:=(by omega);clear hbo)
 have HM:=Aside0.mk hM1
 replace HB:=Aside0.mk hB1
 clear hM1 hB1
 go_loopg [7,24] fr.length (fun gg s7 s24 wr=>∃ (kk:Nat) (f:Int→Option Value),kk≤fr.length∧fr.length - kk≤gg∧s24 = .int .i64 kk∧Aside0 (MapV wr bo kk f)∧Aside0 (WayR wr w.heap.size f (start0 (fr.take kk)) 0)∧Aside0 (Below w.heap.size w wr))
 case atStart=>exact ⟨0,_,Nat.zero_le _,by omega,rfl,HM,⟨.mk_ (fun _ _=>rfl) (fun k l h=>by simp [start0] at h)⟩,HB⟩
 case round =>
  clear HM HB
  obtain ⟨kk,f,hkk,hg,rfl,HM,HW,HB⟩:=hrel
  by_cases hlt:kk < fr.length
  ·have hltz:(kk:Int) < (fr.length:Int):=by omega
   obtain ⟨ad,e,h0⟩:=int_at (Kd.C_below HR1.out HB.out) kk hltz
   cases e
   have HG:=Aside0.mk (rd_get fr kk hlt)
   generalize rdOf 0 fr (kk:Int) = x at h0 HG
   have HX:=Aside0.mk (HK.out x (univ_from (List.mem_of_getElem? HG.out)))
   go_wp2_with (first
    | ((with_reducible refine gate_dst (N:=30) rfl ?_);refine Kd.R_lit (Kd.int .i64) _ 3 ?hg (N:=30) ?hd (xs:=([]:List Int)) (inner:=[]) (ok:=fun _=>True) (okp:=fun _=>True) ?hr ?hp (fun _ hk=>hk) trivial (Below.refl _ _) (Nat.le_refl _) (by simp) ?_;(case hd=>rfl);(case hg=>rfl);(case hr=>first|(go_simp;done)|(go_simp;rfl));(case hp=>exact Reps.none _ _);intro v3 w3 ho3 hb3 hg3 hn3;have HO:=Aside0.mk (Kd.R_lower ho3 HB.out.size);have HM3:=Aside0.mk (HM.out.below hb3);have HW3:=Aside0.mk (HW.out.below hb3);have HB3:=Aside0.mk (below_then HB.out HB.out.size hb3);clear ho3 hb3 hg3 hn3)
    | (at_mapUpdate;refine MapV.update HM3.out 78 23 Try.underlying78 rfl _ _ _ rfl rfl (by omega) x v3 rfl rfl HX.out ?_;intro w6 hM6 hG6))
   go_roundg (fr.length - (kk + 1))
   case measure=>omega
   case rel =>
    refine ⟨kk + 1,_,by omega,by omega,by go_num,⟨hM6⟩,⟨?_⟩,⟨pw_below_grown HB3.out _ HB3.out.size hG6 (fun k hk=>by injection hk with hk;omega)⟩⟩
    rw [take_snoc_of HG.out,start0_snoc]
    exact (HW3.out.map HM3.out hG6).put x (R_map HO.out HM3.out hG6) (Nat.zero_le _)
  ·have hltz:¬ (kk:Int) < (fr.length:Int):=by omega
   replace HW:=Aside0.mk (show WayR wr w.heap.size f (start0 fr) 0 by have h:=HW.out;rwa [List.take_of_length_le (by omega)] at h)
   replace HM:=Aside0.mk (HM.out.up (show kk≤64 by omega))
   go_wp2_with fail
   refine (slices_Clone_int_int.calls A1 c1 fr fr wr (Kd.C_below HR1.out HB.out) HC1.out (by unfold slices_Clone_int_int.f;rw [if_pos (by omega)])).mono ?_
   rintro e w2 ⟨v2,rfl,ho2,hb2⟩
   obtain ⟨A2,c2,rfl⟩:=Kd.R_slice ho2
   have HL:=Aside0.mk (Kd.R_lower ho2 HB.out.size)
   replace HM:=Aside0.mk (HM.out.below hb2)
   replace HW:=Aside0.mk (HW.out.below hb2)
   replace HB:=Aside0.mk (below_then HB.out HB.out.size hb2)
   clear ho2 hb2
   go_wp2_with fail
   obtain ⟨G0,hG0⟩:∃ G0,G0 = (univ op fr).length + 1:=⟨_,rfl⟩
   have hG0l:G0≤200:=by have:=HUL.out;omega
   have HG0:=Aside0.mk hG0
   clear hG0
   go_loopg [8,9,11,13,14,15,16,17,18,19,20] G0 (fun gg s8 s9 s11 s13 s14 s15 s16 s17 s18 s19 s20 wr=>∃ (gl nO L:Nat) (f:Int→Option Value) (out:Ws) (last:List Int) (A:Option Addr) (c:Nat),gl≤gg∧gl≤200∧L + gl≤200∧nO + 12800 * gl≤2600000∧s8 = .slice A last.length c∧last.length≤200
    ∧ Aside0 (∀ n ∈ last,wfI n)∧Aside0 (last = [] ∨ unk (univ op fr) out + 1≤gl)∧Aside0 (waysN (univ op fr) op (gl + 1) out last = waysF op fr)
    ∧ Aside0 (MapV wr bo nO f)∧Aside0 (WayR wr w.heap.size f out L)∧Aside0 (RI wr w.heap.size (.slice A last.length c) last)∧Aside0 (Below w.heap.size w wr))
   case atStart =>
    refine ⟨G0,64,0,f,start0 fr,fr,A2,c2,Nat.le_refl _,hG0l,by omega,by omega,rfl,by omega,⟨fun n hn=>HK.out n (univ_from hn)⟩,⟨.inr ?_⟩,⟨by rw [HG0.out];rfl⟩,HM,HW,HL,HB⟩
    have:unk (univ op fr) (start0 fr)≤(univ op fr).length:=List.countP_le_length
    have:=HG0.out
    omega
   case round =>
    clear HM HW HL HB
    obtain ⟨gl,nO,L,f,out,last,A,c,hgl,hgl2,hLg,hnO,rfl,hll,HWF,HUN,HFU,HM,HW,HL,HB⟩:=hrel
    by_cases hl0:last = []
    ·subst hl0
     go_wp2_with fail
     go_ret
     refine ⟨bo,nO,f,rfl,by omega,HM.out,?_,HB.out⟩
     have h:=HFU.out
     rw [waysN_done] at h
     rw [← h]
     exact HW.out.up (by omega)
    ·have hlz:(0:Int) < (last.length:Int):=by have:=List.length_pos_iff.2 hl0;omega
     have hun:unk (univ op fr) out + 1≤gl:=HUN.out.resolve_left hl0
     have HL0:=Aside0.mk hl0
     clear HUN hl0
     go_wp2_with ((with_reducible refine gate_dst (N:=37) rfl ?_);refine makeMap_event 78 rfl rfl ?_;intro bn hbn w4 hM4 hB4;have hne:bo≠bn:=(by have:=HM.out.lt;omega);have hbnw:w.heap.size≤bn:=(by have:=HB.out.size;omega);clear hbn)
     have HN:=Aside0.mk hM4
     replace HM:=Aside0.mk (HM.out.below hB4)
     replace HW:=Aside0.mk (HW.out.below hB4)
     replace HL:=Aside0.mk (Kd.R_below HL.out hB4)
     replace HB:=Aside0.mk (below_then HB.out HB.out.size hB4)
     clear hM4 hB4
     go_loopg [11,13,14,15,16,17,18,19,20,40] last.length (fun gg s11 s13 s14 s15 s16 s17 s18 s19 s20 s40 wr=>∃ (kk nN:Nat) (fn:Int→Option Value) (acc:Ws),kk≤last.length∧last.length - kk≤gg∧nN≤64 * kk∧s40 = .int .i64 kk
      ∧ Aside0 (acc = (last.take kk).foldl (fun acc n=>op.foldl (stepW out n) acc) (fun _=>none))
      ∧ Aside0 (MapV wr bo nO f)∧Aside0 (WayR wr w.heap.size f out L)∧Aside0 (RI wr w.heap.size (.slice A last.length c) last)∧Aside0 (MapV wr bn nN fn)∧Aside0 (WayR wr w.heap.size fn acc (L + 1))∧Aside0 (Below w.heap.size w wr))
     case atStart=>exact ⟨0,0,_,_,Nat.zero_le _,by omega,by omega,rfl,⟨by rw [List.take_zero];first|done|rfl⟩,HM,HW,HL,HN,⟨.mk_ (fun _ _=>rfl) (fun k l h=>by cases h)⟩,HB⟩
     case round =>
      clear HM HW HL HN HB
      obtain ⟨kk,nN,fn,acc,hkk,hg,hnN,rfl,HA,HM,HW,HL,HN,HV,HB⟩:=hrel
      by_cases hlt:kk < last.length
      ·have hltz:(kk:Int) < (last.length:Int):=by omega
       obtain ⟨ad,e,h0⟩:=int_at (RI_C HL.out).2 kk hltz
       cases e
       have HG:=Aside0.mk (rd_get last kk hlt)
       generalize rdOf 0 last (kk:Int) = n at h0 HG
       have HNW:=Aside0.mk (HWF.out n (List.mem_of_getElem? HG.out))
       go_wp2_with fail
       clear h0
       go_loopg [13,14,15,16,17,18,19,20,46] op.length (fun gg s13 s14 s15 s16 s17 s18 s19 s20 s46 wr=>∃ (jj nM:Nat) (fm:Int→Option Value) (acm:Ws),jj≤op.length∧op.length - jj≤gg∧nM≤nN + jj∧s46 = .int .i64 jj
        ∧ Aside0 (acm = (op.take jj).foldl (stepW out n) acc)
        ∧ Aside0 (MapV wr bo nO f)∧Aside0 (WayR wr w.heap.size f out L)∧Aside0 (RI wr w.heap.size (.slice (some ad) last.length c) last)∧Aside0 (MapV wr bn nM fm)∧Aside0 (WayR wr w.heap.size fm acm (L + 1))∧Aside0 (Below w.heap.size w wr))
       case atStart=>exact ⟨0,nN,fn,acc,Nat.zero_le _,by omega,by omega,rfl,⟨by rw [List.take_zero];rfl⟩,HM,HW,HL,HN,HV,HB⟩
       case round =>
        clear HM HW HL HN HV HB
        obtain ⟨jj,nM,fm,acm,hjj,hg,hnM,rfl,HAM,HM,HW,HL,HN,HV,HB⟩:=hrel
        by_cases hlt2:jj < op.length
        ·have hltz:(jj:Int) < (op.length:Int):=by omega
         obtain ⟨ad2,e,h0,h1,h2,h3,h4,h5,h6⟩:=at_T48 (Kd.C_below HR0.out HB.out) jj (by omega) hltz
         cases e
         simp only [Int.toNat_natCast] at h0 h1 h2 h3 h4 h5 h6
         have HG2:=Aside0.mk (rd48_get op jj hlt2)
         generalize rd_T48 op (jj:Int) = x at h0 h1 h2 h3 h4 h5 h6 HG2
         have HST:=Aside0.mk (show (op.take (jj + 1)).foldl (stepW out n) acc = stepW out n acm x by rw [take_snoc_of HG2.out,List.foldl_append,← HAM.out];rfl)
         go_wp2_with fail
         cases hot:otherO x n with
         | none =>
          refine (other_none hot _).mono ?_
          rintro e w5 ⟨rfl,hb5⟩
          have hbl:Below wr.heap.size wr w5:=(below_alloc (Below.refl wr.heap.size wr) (.cells #[.int .i64 x.f0,.int .i64 x.f1,.int .i64 x.f2,.int .i64 x.f3,.string x.f4.f0,.string x.f4.f1,.string x.f4.f2] 48)).trans (hb5.mono (by simp))
          have HOT:=Aside0.mk hot
          replace HM:=Aside0.mk (HM.out.below hbl)
          replace HW:=Aside0.mk (HW.out.below hbl)
          replace HL:=Aside0.mk (Kd.R_below HL.out hbl)
          replace HN:=Aside0.mk (HN.out.below hbl)
          replace HV:=Aside0.mk (HV.out.below hbl)
          replace HB:=Aside0.mk (below_then HB.out HB.out.size hbl)
          clear hb5 hbl hot h0 h1 h2 h3 h4 h5 h6
          go_wp2_with (at_lookup;refine MapV.lookup_ok HM.out 78 23 (.slice none 0 0) Try.underlying78 zero23 rfl _ _ rfl rfl 0 rfl wfI_0 ?_)
          go_roundg (op.length - (jj + 1))
          case measure=>omega
          case rel =>
           refine ⟨jj + 1,nM,fm,acm,by omega,by omega,by omega,by go_num,⟨?_⟩,HM,HW,HL,HN,HV,HB⟩
           rw [HST.out]
           unfold stepW
           rw [HOT.out]
         | some m =>
          refine (other_some hot _).mono ?_
          rintro e w5 ⟨rfl,hb5⟩
          have hbl:Below wr.heap.size wr w5:=(below_alloc (Below.refl wr.heap.size wr) (.cells #[.int .i64 x.f0,.int .i64 x.f1,.int .i64 x.f2,.int .i64 x.f3,.string x.f4.f0,.string x.f4.f1,.string x.f4.f2] 48)).trans (hb5.mono (by simp))
          have HBX:=Aside0.mk (show w5.heap[wr.heap.size]? = some (.cells #[.int .i64 x.f0,.int .i64 x.f1,.int .i64 x.f2,.int .i64 x.f3,.string x.f4.f0,.string x.f4.f1,.string x.f4.f2] 48 (0,0)) from blk_below (blk_new _ _) hb5)
          have HOT:=Aside0.mk hot
          have HMW:=Aside0.mk (HK.out m (univ_ends (otherO_ends (List.mem_of_getElem? HG2.out) hot)))
          replace HM:=Aside0.mk (HM.out.below hbl)
          replace HW:=Aside0.mk (HW.out.below hbl)
          replace HL:=Aside0.mk (Kd.R_below HL.out hbl)
          replace HN:=Aside0.mk (HN.out.below hbl)
          replace HV:=Aside0.mk (HV.out.below hbl)
          replace HB:=Aside0.mk (below_then HB.out HB.out.size hbl)
          clear hb5 hbl hot h0 h1 h2 h3 h4 h5 h6
          obtain ⟨bx,hbx⟩:∃ bx,bx = wr.heap.size:=⟨_,rfl⟩
          rw [← hbx] at HBX ⊢
          clear hbx
          cases hout:out m with
          | some l =>
           obtain ⟨⟨v,hv,_⟩,_⟩:=HW.out.some_ hout
           have HOU:=Aside0.mk hout
           have HFV:=Aside0.mk hv
           clear hout hv
           go_wp2_with (at_lookup;refine MapV.lookup_some HM.out HFV.out 78 23 (.slice none 0 0) Try.underlying78 zero23 rfl _ _ rfl rfl rfl HMW.out ?_)
           go_roundg (op.length - (jj + 1))
           case measure=>omega
           case rel =>
            refine ⟨jj + 1,nM,fm,acm,by omega,by omega,by omega,by go_num,⟨?_⟩,HM,HW,HL,HN,HV,HB⟩
            rw [HST.out]
            unfold stepW
            rw [HOT.out]
            show acm = match out m with|some _=>acm|none=>_
            rw [HOU.out]
          | none =>
           have HFN:=Aside0.mk (HW.out.none_ hout)
           have HOU:=Aside0.mk hout
           clear hout
           go_wp2_with (at_lookup;refine MapV.lookup_none HM.out HFN.out 78 23 (.slice none 0 0) Try.underlying78 zero23 rfl _ _ rfl rfl rfl HMW.out ?_)
           obtain ⟨An,cn,hen,hln,hCn⟩:=HW.out.read n
           have hrl:∀ W',Below w5.heap.size w5 W'→(Instr.lookup 78 (.map (some bo)) (.int .i64 n) false).run Try.prog W' = .ok (.slice An ((out n).getD []).length cn) W':=fun W' hW=>by
            have:=(HM.out.below hW).run_lookup 78 23 (.slice none 0 0) Try.underlying78 zero23 n HNW.out
            rwa [hen] at this
           have hLn:((out n).getD []).length≤L:=by
            cases e:out n with
            | none=>simp
            | some l=>exact (HW.out.some_ e).2
           have HOE:=Aside0.mk (show (out n).getD [] = (out n).getD [] from rfl)
           generalize hgn:(out n).getD [] = ln at hrl hLn hCn hln
           replace HOE:=Aside0.mk hgn
           have HLN:=Aside0.mk hln
           have HCN:=Aside0.mk hCn
           have HLL:=Aside0.mk hLn
           have HS:=Aside0.mk (show ∀ W',Below w5.heap.size w5 W'→W'.cell? ⟨bx,0,none⟩ = some (.int .i64 x.f0)∧(Instr.lookup 78 (.map (some bo)) (.int .i64 n) false).run Try.prog W' = .ok (.slice An ln.length cn) W' from fun W' hW=>⟨pw_cell_below hW (blk_cell HBX.out 0),hrl W' hW⟩)
           have HB5:=Aside0.mk (Below.refl w5.heap.size w5)
           clear hrl hLn hCn hln hgn hen
           obtain ⟨k0,k1⟩:=HS.out w5 HB5.out
           go_region_held3 (fun w'=>w'.cell? ⟨bx,0,none⟩ = some (.int .i64 x.f0)∧(Instr.lookup 78 (.map (some bo)) (.int .i64 n) false).run Try.prog w' = .ok (.slice An ln.length cn) w')
            (exact HS.out _ bx_)
            (first
             | (go_at_call 29;refine (slices_Clone_int_int.calls An cn ln ln _ (cx_ (Kd.C_below HCN.out HB5.out)) HLN.out (by unfold slices_Clone_int_int.f;rw [if_pos (by have:=HLL.out;omega)])).mono ?_;rintro e wC ⟨vC,rfl,hoC,hbC⟩;have HBC:Aside0 (Below w5.heap.size w5 wC):=bs_ hbC;have HOC:=Aside0.mk (Kd.R_lower hoC (below_size (bx_:Below w5.heap.size w5 _)));try (have HG1:=Aside0.mk (blk_below (blk_drew (blk_new w5 _)) hbC));clear hoC hbC)
             | ((refine Kd.R_append_rows_step (Kd.int .i64) (w0:=w5) w5.heap.size (by rfl) (.tmp 70) (.tmp 73) 23 3 (.int .i64 0) 8 rfl Try.underlying23 info3 rfl (by decide) (by decide) vC ln [x.f0] _ 1 1 (fun _=>True) (fun _=>False) rfl rfl ?aO ?aR (fun _ _ h=>h) (fun _ h=>h.elim) (fun _ _=>trivial) ?aB ?aS ?aL ?_);(case aO=>exact rx_);(case aR=>exact C_one (by (with_reducible repeat (first|refine blk_drewN ?_ _|refine blk_drew ?_));first|exact blk_new _ _|exact HG1.out));(case aB=>exact bx_);(case aS=>exact below_size bx_);(case aL=>have:=HLL.out;first|omega|(simp only [List.length_cons,List.length_nil];omega));intro v2 w2 ho hb hg_ hat;have HO2:=Aside0.mk ho;have HB2:=Aside0.mk hb;clear ho hb hg_ hat))
           all_goals
            clear k0 k1
            obtain ⟨way,hway⟩:∃ way,way = ln ++ [x.f0]:=⟨_,rfl⟩
            rw [← hway] at HO2
            have hwl:way.length≤L + 1:=by have:=HLL.out;rw [hway];simp;omega
            have HWAY:=Aside0.mk hway
            have HWL:=Aside0.mk hwl
            clear hway hwl
            have HO:=Aside0.mk (Kd.R_lower HO2.out HB.out.size)
            replace HM:=Aside0.mk (HM.out.below HB2.out)
            replace HW:=Aside0.mk (HW.out.below HB2.out)
            replace HL:=Aside0.mk (Kd.R_below HL.out HB2.out)
            replace HN:=Aside0.mk (HN.out.below HB2.out)
            replace HV:=Aside0.mk (HV.out.below HB2.out)
            replace HB:=Aside0.mk (below_then HB.out HB.out.size HB2.out)
            clear HO2 HB2 HBC HOC HB5 HS HCN HLN
            cases hac:acm m with
            | none =>
             have HFM:=Aside0.mk (HV.out.none_ hac)
             have HAC:=Aside0.mk hac
             clear hac
             go_wp2_with (first
              | (at_lookup;refine MapV.lookup_none HN.out HFM.out 78 23 (.slice none 0 0) Try.underlying78 zero23 rfl _ _ rfl rfl rfl HMW.out ?_)
              | (at_mapUpdate;refine MapV.update HN.out 78 23 Try.underlying78 rfl _ _ _ rfl rfl (by omega) m v2 rfl rfl HMW.out ?_;intro w6 hM6 hG6))
             go_roundg (op.length - (jj + 1))
             case measure=>omega
             case rel =>
              refine ⟨jj + 1,nM + 1,_,putW acm m way,by omega,by omega,by omega,by go_num,⟨?_⟩,⟨HM.out.grown hG6 (by simpa using hne)⟩,⟨HW.out.map HN.out hG6⟩,⟨R_map HL.out HN.out hG6⟩,⟨hM6⟩,⟨(HV.out.map HN.out hG6).put m (R_map HO.out HN.out hG6) HWL.out⟩,⟨pw_below_grown HB.out _ HB.out.size hG6 (fun k hk=>by injection hk with hk;omega)⟩⟩
              rw [HST.out,HWAY.out,← HOE.out]
              unfold stepW
              rw [HOT.out]
              show _ = match out m with|some _=>acm|none=>_
              rw [HOU.out]
              show _ = match acm m with|none=>_|some best=>_
              rw [HAC.out]
            | some best =>
             obtain ⟨⟨vb,hvb,hRb⟩,hbl⟩:=HV.out.some_ hac
             have HFM:=Aside0.mk hvb
             have HAC:=Aside0.mk hac
             obtain ⟨Ab,cb,eb,hlb,hCb⟩:=Kd.R_reads hRb
             subst eb
             obtain ⟨Aw,cw,ew,hlw,hCw⟩:=Kd.R_reads HO.out
             subst ew
             have HCW:=Aside0.mk hCw
             have HCB:=Aside0.mk hCb
             have HLW:=Aside0.mk hlw
             have HLB:=Aside0.mk hlb
             clear hac hvb hRb hCb hCw hlw hlb hbl
             go_wp2_with (at_lookup;refine MapV.lookup_some HN.out HFM.out 78 23 (.slice none 0 0) Try.underlying78 zero23 rfl _ _ rfl rfl rfl HMW.out ?_)
             refine (comp87 Aw cw way Ab cb best _ HCW.out HLW.out HCB.out HLB.out).mono ?_
             rintro e w7 ⟨rfl,nd,rfl⟩
             have hbd:Below w2.heap.size w2 (w2.drewN nd):=pw_below_drewN (Below.refl _ _) nd
             replace HM:=Aside0.mk (HM.out.below hbd)
             replace HW:=Aside0.mk (HW.out.below hbd)
             replace HL:=Aside0.mk (Kd.R_below HL.out hbd)
             replace HN:=Aside0.mk (HN.out.below hbd)
             replace HV:=Aside0.mk (HV.out.below hbd)
             replace HO:=Aside0.mk (Kd.R_below HO.out hbd)
             replace HB:=Aside0.mk (below_then HB.out HB.out.size hbd)
             clear hbd HCW HCB HLW HLB
             by_cases hcmp:cmpL way best < 0
             ·have hcd:=decide_eq_true hcmp
              have HCM:=Aside0.mk hcmp
              go_wp2_with (at_mapUpdate;refine MapV.update HN.out 78 23 Try.underlying78 rfl _ _ _ rfl rfl (by omega) m (.slice Aw way.length cw) rfl rfl HMW.out ?_;intro w6 hM6 hG6)
              go_roundg (op.length - (jj + 1))
              case measure=>omega
              case rel =>
               refine ⟨jj + 1,nM + 1,_,putW acm m way,by omega,by omega,by omega,by go_num,⟨?_⟩,⟨HM.out.grown hG6 (by simpa using hne)⟩,⟨HW.out.map HN.out hG6⟩,⟨R_map HL.out HN.out hG6⟩,⟨hM6⟩,⟨(HV.out.map HN.out hG6).put m (R_map HO.out HN.out hG6) HWL.out⟩,⟨pw_below_grown HB.out _ HB.out.size hG6 (fun k hk=>by injection hk with hk;omega)⟩⟩
               rw [HST.out]
               unfold stepW
               rw [HOT.out]
               show _ = match out m with|some _=>acm|none=>_
               rw [HOU.out]
               show _ = match acm m with|none=>_|some best=>_
               rw [HAC.out]
               show _ = if cmpL ((out n).getD [] ++ [x.f0]) best < 0 then _ else _
               rw [HOE.out,← HWAY.out,if_pos HCM.out]
             ·have hcd:=decide_eq_false hcmp
              have HCM:=Aside0.mk hcmp
              go_wp2_with fail
              go_roundg (op.length - (jj + 1))
              case measure=>omega
              case rel =>
               refine ⟨jj + 1,nM,fm,acm,by omega,by omega,by omega,by go_num,⟨?_⟩,HM,HW,HL,HN,HV,HB⟩
               rw [HST.out]
               unfold stepW
               rw [HOT.out]
               show _ = match out m with|some _=>acm|none=>_
               rw [HOU.out]
               show _ = match acm m with|none=>_|some best=>_
               rw [HAC.out]
               show _ = if cmpL ((out n).getD [] ++ [x.f0]) best < 0 then _ else _
               rw [HOE.out,← HWAY.out,if_neg (by have:=HCM.out;omega)]
        ·have hltz:¬ (jj:Int) < (op.length:Int):=by omega
         have HFL:=Aside0.mk (show acm = op.foldl (stepW out n) acc by have h:=HAM.out;rwa [List.take_of_length_le (by omega)] at h)
         go_wp2_with fail
         go_roundg (last.length - (kk + 1))
         case measure=>omega
         case rel =>
          refine ⟨kk + 1,nM,fm,acm,by omega,by omega,by omega,by go_num,⟨?_⟩,HM,HW,HL,HN,HV,HB⟩
          rw [HFL.out,take_snoc_of HG.out,List.foldl_append,← HA.out]
          rfl
      ·have hltz:¬ (kk:Int) < (last.length:Int):=by omega
       have HNX:=Aside0.mk (show acc = nextW op out last by have h:=HA.out;rwa [List.take_of_length_le (by omega)] at h)
       have hnN2:nN≤12800:=by omega
       go_wp2_with fail
       refine (copy88 bo bn nO nN f fn wr HM.out HN.out hne (by omega)).mono ?_
       rintro e w5 ⟨rfl,hM5,hN5,hG5⟩
       have HM5:=Aside0.mk hM5
       have HN5:=Aside0.mk hN5
       have HW5:=Aside0.mk (((HV.out.map HM.out hG5)).or_ ((HW.out.map HM.out hG5).up (show L≤L + 1 by omega)))
       have HS:=Aside0.mk (fun k=>HV.out.isSome k)
       replace HB:=Aside0.mk (pw_below_grown HB.out _ HB.out.size hG5 (fun k hk=>by injection hk with hk;omega))
       clear hM5 hN5 hG5 HM HN HW HV HL
       go_wp2_with fail
       refine (keys53 _ _).mono ?_
       rintro e w6 ⟨rfl,rfl⟩
       go_wp2_with fail
       refine (sorted52A w5 bn nN fn HN5.out (by omega)).mono ?_
       rintro e w7 ⟨v7,ss,rfl,hs1,hs2,hs3,hs4,hs5⟩
       obtain ⟨A7,c7,rfl⟩:=Kd.R_slice hs4
       have hbl:Below w5.heap.size w5 w7:=(below_alloc (Below.refl w5.heap.size w5) (.cells #[.map (some bn)] 78)).trans (hs5.mono (by simp))
       have hss:ss = keysW (univ op fr) (nextW op out last):=keysW_eq hs1 (fun k=>by rw [hs2 k,HS.out k,HNX.out]) (fun k hk=>by
        obtain ⟨l,hl⟩:=Option.isSome_iff_exists.1 hk
        exact univ_ends (nextW_new hl).2)
       have hsl:ss.length≤200:=by
        rw [hss]
        have h1:(keysW (univ op fr) (nextW op out last)).length≤(univ op fr).length:=List.length_filter_le _ _
        have h2:=HUL.out
        omega
       have HSS:=Aside0.mk hss
       have HL7:=Aside0.mk (Kd.R_lower hs4 (show w.heap.size≤(w5.alloc (.cells #[.map (some bn)] 78)).heap.size from below_size (below_alloc HB.out _)))
       have HM7:=Aside0.mk (HM5.out.below hbl)
       have HW7:=Aside0.mk (HW5.out.below hbl)
       have HB7:=Aside0.mk (below_then HB.out HB.out.size hbl)
       clear hs1 hs2 hs3 hs4 hs5 hbl hss HS HB HM5 HW5 HN5
       go_wp2_with fail
       go_roundg (gl - 1)
       case measure=>omega
       case rel =>
        refine ⟨gl - 1,nO + nN,L + 1,_,orW acc out,ss,A7,c7,Nat.le_refl _,by omega,by omega,by omega,rfl,hsl,⟨fun k hk=>HK.out k (by rw [HSS.out] at hk;exact (keysW_mem.1 hk).1)⟩,⟨?_⟩,⟨?_⟩,HM7,HW7,HL7,HB7⟩
        ·by_cases e:ss = []
         ·exact .inl e
         ·rw [HSS.out] at e
          have:=unk_less e
          rw [HNX.out]
          right
          omega
        ·have h:=HFU.out
         unfold waysN at h
         rw [if_neg HL0.out,← HNX.out] at h
         rw [show gl - 1 + 1 = gl from by omega,← h,HSS.out,HNX.out]
theorem chosen_inv {l0:List S48} {l1 l2:List Int} {o:List S48} (h:connection_chosen.f l0 l1 l2 = some (o,0)):rightB l0 = true∧startB l2 = true∧incB l1 = true∧pickO l0 l1 = some o:=by
 unfold connection_chosen.f at h
 have h:=Option.some.inj h
 by_cases h1:(rightB l0 && startB l2) = true
 ·rw [if_pos h1] at h
  rw [Bool.and_eq_true] at h1
  by_cases h2:incB l1 = true
  ·rw [if_pos h2] at h
   cases h3:pickO l0 l1 with
   | none=>rw [h3] at h;injection h with _ h;cases h
   | some x=>rw [h3] at h;injection h with h _;subst h;exact ⟨h1.1,h1.2,h2,rfl⟩
  ·rw [if_neg h2] at h;injection h with _ h;cases h
 ·rw [if_neg h1] at h;injection h with _ h;cases h
theorem fold_none (l:List S48):∀ a:List Int,a.foldl (fun a id=>a.bind fun acc=>if fidx (fun o:S48=>o.f0 == id) l 0 < 0 then none else some (acc ++ [rd_T48 l (fidx (fun o:S48=>o.f0 == id) l 0)])) (none:Option (List S48)) = none:=by
 intro a
 induction a with
 | nil=>rfl
 | cons y a ih=>exact ih
theorem pickO_cons (l:List S48) (x:Int) (a:List Int) (b:List S48):a.foldl (fun a id=>a.bind fun acc=>if fidx (fun o:S48=>o.f0 == id) l 0 < 0 then none else some (acc ++ [rd_T48 l (fidx (fun o:S48=>o.f0 == id) l 0)])) (some b) = (pickO l a).map (b ++ ·):=by
 unfold pickO
 have key:∀ (a:List Int) (b c:List S48),a.foldl (fun a id=>a.bind fun acc=>if fidx (fun o:S48=>o.f0 == id) l 0 < 0 then none else some (acc ++ [rd_T48 l (fidx (fun o:S48=>o.f0 == id) l 0)])) (some (b ++ c)) = (a.foldl (fun a id=>a.bind fun acc=>if fidx (fun o:S48=>o.f0 == id) l 0 < 0 then none else some (acc ++ [rd_T48 l (fidx (fun o:S48=>o.f0 == id) l 0)])) (some c)).map (b ++ ·):=by
  intro a
  induction a with
  | nil=>intro b c;rfl
  | cons y a ih =>
   intro b c
   rw [List.foldl_cons,List.foldl_cons,Option.bind_some,Option.bind_some]
   by_cases hc:fidx (fun o:S48=>o.f0 == y) l 0 < 0
   ·rw [if_pos hc,if_pos hc,fold_none];rfl
   ·rw [if_neg hc,if_neg hc,List.append_assoc];exact ih b _
 have:=key a b []
 rwa [List.append_nil] at this
theorem rd48_mem {l:List S48} {i:Int} (h0:0≤i) (h1:i < l.length):rd_T48 l i ∈ l:=by
 have:=rd48_get l i.toNat (by omega)
 rw [show ((i.toNat:Nat):Int) = i from by omega] at this
 exact List.mem_of_getElem? this
theorem pickO_sub {l:List S48}:∀ {a:List Int} {o:List S48},pickO l a = some o→∀ x ∈ o,x ∈ l:=by
 intro a
 induction a with
 | nil=>intro o h;unfold pickO at h;injection h with h;subst h;intro x hx;simp at hx
 | cons y a ih =>
  intro o h
  unfold pickO at h
  rw [List.foldl_cons,Option.bind_some] at h
  by_cases hc:fidx (fun o:S48=>o.f0 == y) l 0 < 0
  ·rw [if_pos hc,fold_none] at h;cases h
  ·rw [if_neg hc,pickO_cons l y] at h
   cases e:pickO l a with
   | none=>rw [e] at h;cases h
   | some b =>
    rw [e] at h
    injection h with h
    subst h
    intro x hx
    rcases List.mem_append.1 hx with h1|h1
    ·have h1:=List.mem_singleton.1 (by simpa using h1)
     subst h1
     have hhi:=fidx_lt (fun o:S48=>o.f0 == y) l 0
     refine rd48_mem (by omega) ?_
     rcases hhi with h2|h2<;>omega
    ·exact ih e x h1
theorem right_ok {l:List S48} (h:rightB l = true):∀ x ∈ l,okO x = true:=by
 unfold rightB preB at h
 simp only [Bool.and_eq_true,List.all_eq_true] at h
 exact h.1.1
theorem ends_code {l o:List S48} (h:rightB l = true) (hs:∀ x ∈ o,x ∈ l):∀ k ∈ ends o,0≤k∧k≤9999:=by
 intro k hk
 unfold ends at hk
 rcases List.mem_append.1 hk with h1|h1
 ·obtain ⟨x,hx,rfl⟩:=List.mem_map.1 h1
  have:=right_ok h x (hs x hx)
  unfold okO at this
  have:=of_decide_eq_true this
  omega
 ·obtain ⟨x,hx,rfl⟩:=List.mem_map.1 h1
  have:=right_ok h x (hs x hx)
  unfold okO at this
  have:=of_decide_eq_true this
  omega
theorem start_code {l:List Int} (h:startB l = true):l.length≤64∧l.Pairwise (· < ·)∧∀ k ∈ l,0≤k∧k≤9999:=by
 unfold startB at h
 simp only [Bool.and_eq_true,decide_eq_true_eq,List.all_eq_true] at h
 refine ⟨h.1,incB_iff.1 h.2.1,fun k hk=>?_⟩
 have:=h.2.2 k hk
 unfold codeB at this
 simpa only [Bool.and_eq_true,decide_eq_true_eq] using this
theorem univ_code {o:List S48} {fr:List Int} (h1:∀ k ∈ ends o,0≤k∧k≤9999) (h2:∀ k ∈ fr,0≤k∧k≤9999):∀ k ∈ univ o fr,wfI k:=fun k hk=>by
 have:0≤k∧k≤9999:=by
  rcases List.mem_append.1 ((isort_mem _ _).1 hk) with h|h
  ·exact h2 k h
  ·exact h1 k h
 exact wfI_of (by omega) (by omega)
theorem waysN_univ {op:List S48} {fr:List Int}:∀ (k:Nat) (out:Ws) (last:List Int),(∀ j l,out j = some l→j ∈ univ op fr)→∀ j l,waysN (univ op fr) op k out last j = some l→j ∈ univ op fr:=by
 intro k
 induction k with
 | zero=>intro out last h j l hj;exact h j l hj
 | succ k ih =>
  intro out last h j l hj
  unfold waysN at hj
  by_cases e:last = []
  ·rw [if_pos e] at hj;exact h j l hj
  ·rw [if_neg e] at hj
   refine ih _ _ (fun i m hi=>?_) j l hj
   unfold orW at hi
   cases hn:nextW op out last i with
   | none=>rw [hn] at hi;exact h i m hi
   | some u=>exact univ_ends (nextW_new hn).2
theorem waysF_univ {op:List S48} {fr:List Int} {j:Int} {l:List Int} (h:waysF op fr j = some l):j ∈ univ op fr :=
 waysN_univ _ _ _ (fun i m hi=>by
  unfold start0 at hi
  by_cases e:i ∈ fr
  ·exact univ_from e
  ·rw [if_neg e] at hi;cases hi) j l h
def reachL (op:List S48) (fr:List Int):List Int:=keysW (univ op fr) (waysF op fr)
theorem reach_eq {op:List S48} {fr:List Int} {f:Int→Option Value} {ss:List Int} (hs:ss.Pairwise (· < ·)) (hm:∀ k,k ∈ ss ↔ (f k).isSome = true) (hf:∀ k,(f k).isSome = (waysF op fr k).isSome):ss = reachL op fr :=
 keysW_eq hs (fun k=>by rw [hm k,hf k]) (fun k hk=>by obtain ⟨l,hl⟩:=Option.isSome_iff_exists.1 hk;exact waysF_univ hl)
theorem ways_ok {l0:List S48} {l1 l2:List Int} {o:List S48} (h:connection_chosen.f l0 l1 l2 = some (o,0)):o.length≤64∧l2.length≤64∧∀ k ∈ univ o l2,wfI k:=by
 obtain ⟨h1,h2,h3,h4⟩:=chosen_inv h
 have hs:=start_code h2
 exact ⟨pickO_le h1 h3 h4,hs.1,univ_code (ends_code h1 (pickO_sub h4)) hs.2.2⟩
def dotP (p:Int→Int):List S48→List Int→Int
 | o :: E,x :: fl=>x * (p o.f1 - p o.f2) + dotP p E fl
 | _,_=>0
theorem dotP_set (p:Int→Int):∀ (E:List S48) (fl:List Int) (i:Nat) (o:S48) (x d:Int),E[i]? = some o→fl[i]? = some x→dotP p E (fl.set i (x + d)) = dotP p E fl + d * (p o.f1 - p o.f2):=by
 intro E
 induction E with
 | nil=>intro fl i o x d h;simp at h
 | cons e E ih =>
  intro fl i o x d h1 h2
  cases fl with
  | nil=>simp at h2
  | cons y fl =>
   cases i with
   | zero =>
    have e1:e = o:=by simpa using h1
    have e2:y = x:=by simpa using h2
    subst e1 e2
    show (y + d) * (p e.f1 - p e.f2) + dotP p E fl = y * (p e.f1 - p e.f2) + dotP p E fl + d * (p e.f1 - p e.f2)
    rw [Int.add_mul]
    omega
   | succ i =>
    have:=ih fl i o x d (by simpa using h1) (by simpa using h2)
    show y * (p e.f1 - p e.f2) + dotP p E (fl.set i (x + d)) = _
    rw [this]
    show _ = y * (p e.f1 - p e.f2) + dotP p E fl + _
    omega
theorem dotP_zero (p:Int→Int):∀ (E:List S48) (n:Nat),dotP p E (List.replicate n 0) = 0:=by
 intro E
 induction E with
 | nil=>intro n;unfold dotP;rfl
 | cons e E ih =>
  intro n
  cases n with
  | zero=>rfl
  | succ n =>
   show 0 * _ + dotP p E (List.replicate n 0) = 0
   rw [ih n,Int.zero_mul]
   rfl
def keepF (ex:Int→Bool):Nat→List S48→List S48
 | _,[]=>[]
 | i,o :: E=>if ex i = true then keepF ex (i + 1) E else o :: keepF ex (i + 1) E
def cutN (L:List S48) (X:Int→Bool):Nat:=L.countP fun o=>X o.f1 != X o.f2
def ind (X:Int→Bool):Int→Int:=fun v=>if X v = true then 1 else 0
theorem ind_diff (X:Int→Bool) (a b:Int):ind X a - ind X b = if X a = X b then 0 else if X a = true then 1 else -1:=by
 unfold ind
 cases X a<;>cases X b<;>simp
structure FlowOK (E:List S48) (ex:Int→Bool) (fr:List Int) (tt:Int) (fl:List Int) (n:Int):Prop where
 len:fl.length = E.length
 bnd:∀ (i:Nat) (x:Int),fl[i]? = some x→-1≤x∧x≤1∧(ex i = true→x = 0)
 dot:∀ p:Int→Int,(∀ s ∈ fr,p s = 1)→p tt = 0→dotP p E fl = n
def Sep (fr:List Int) (tt:Int) (X:Int→Bool):Prop:=(∀ s ∈ fr,X s = true)∧X tt = false
theorem flow_le_aux (X:Int→Bool) (ex:Int→Bool):∀ (E:List S48) (fl:List Int) (i:Nat),fl.length = E.length→(∀ (j:Nat) (x:Int),fl[j]? = some x→-1≤x∧x≤1∧(ex ((i + j:Nat):Int) = true→x = 0))→dotP (ind X) E fl≤cutN (keepF ex i E) X:=by
 intro E
 induction E with
 | nil=>intro fl i _ _;unfold dotP;exact Int.natCast_nonneg _
 | cons o E ih =>
  intro fl i hl hb
  cases fl with
  | nil=>simp at hl
  | cons x fl =>
   have h0:=hb 0 x rfl
   have hr:=ih fl (i + 1) (by simpa using hl) (fun j y hj=>by
    have:=hb (j + 1) y (by simpa using hj)
    rwa [show i + (j + 1) = i + 1 + j from by omega] at this)
   unfold dotP keepF
   rw [ind_diff]
   by_cases hx:ex (i:Int) = true
   ·rw [if_pos hx,h0.2.2 (by simpa using hx),Int.zero_mul]
    omega
   ·rw [if_neg hx]
    show _≤((List.countP _ (o :: keepF ex (i + 1) E):Nat):Int)
    rw [List.countP_cons]
    have hr':dotP (ind X) E fl≤((keepF ex (i + 1) E).countP fun o=>X o.f1 != X o.f2:Nat):=hr
    by_cases hd:X o.f1 = X o.f2
    ·rw [if_pos hd,if_neg (show ¬ (X o.f1 != X o.f2) = true by simp [hd]),Int.mul_zero]
     omega
    ·rw [if_neg hd,if_pos (show (X o.f1 != X o.f2) = true by simpa using hd)]
     by_cases ht:X o.f1 = true
     ·rw [if_pos ht];omega
     ·rw [if_neg ht];omega
theorem flow_le {E:List S48} {ex:Int→Bool} {fr:List Int} {tt:Int} {fl:List Int} {n:Int} (h:FlowOK E ex fr tt fl n) {X:Int→Bool} (hX:Sep fr tt X):n≤cutN (keepF ex 0 E) X:=by
 rw [← h.dot (ind X) (fun s hs=>by unfold ind;rw [if_pos (hX.1 s hs)]) (by unfold ind;rw [hX.2];rfl)]
 exact flow_le_aux X ex E fl 0 h.len (fun j x hj=>by rw [Nat.zero_add];exact h.bnd j x hj)
theorem flow_eq_aux (X:Int→Bool) (ex:Int→Bool):∀ (E:List S48) (fl:List Int) (i:Nat),fl.length = E.length→(∀ (j:Nat) (x:Int),fl[j]? = some x→-1≤x∧x≤1∧(ex ((i + j:Nat):Int) = true→x = 0)) →
  (∀ (j:Nat) (o:S48) (x:Int),E[j]? = some o→fl[j]? = some x→ex ((i + j:Nat):Int) = false→(X o.f1 = true→X o.f2 = false→x = 1)∧(X o.f1 = false→X o.f2 = true→x = -1))→dotP (ind X) E fl = cutN (keepF ex i E) X:=by
 intro E
 induction E with
 | nil=>intro fl i _ _ _;unfold dotP;rfl
 | cons o E ih =>
  intro fl i hl hb hs
  cases fl with
  | nil=>simp at hl
  | cons x fl =>
   have h0:=hb 0 x rfl
   have hr:=ih fl (i + 1) (by simpa using hl) (fun j y hj=>by
    have:=hb (j + 1) y (by simpa using hj)
    rwa [show i + (j + 1) = i + 1 + j from by omega] at this) (fun j e y hj hy=>by
    have:=hs (j + 1) e y (by simpa using hj) (by simpa using hy)
    rwa [show i + (j + 1) = i + 1 + j from by omega] at this)
   unfold dotP keepF
   rw [ind_diff,hr]
   by_cases hx:ex (i:Int) = true
   ·rw [if_pos hx,h0.2.2 (by simpa using hx),Int.zero_mul,Int.zero_add]
   ·rw [if_neg hx]
    have h1:=hs 0 o x rfl rfl (by simpa using hx)
    show _ = ((List.countP _ (o :: keepF ex (i + 1) E):Nat):Int)
    rw [List.countP_cons]
    show _ + ((List.countP _ (keepF ex (i + 1) E):Nat):Int) = _
    by_cases hd:X o.f1 = X o.f2
    ·rw [if_pos hd,if_neg (show ¬ (X o.f1 != X o.f2) = true by simp [hd]),Int.mul_zero]
     omega
    ·rw [if_neg hd,if_pos (show (X o.f1 != X o.f2) = true by simpa using hd)]
     by_cases ht:X o.f1 = true
     ·rw [if_pos ht]
      have:=h1.1 ht (by rw [ht] at hd;cases e:X o.f2 with|true=>rw [e] at hd;exact absurd rfl hd|false=>rfl)
      subst this
      omega
     ·rw [if_neg ht]
      have hf:X o.f1 = false:=by cases e:X o.f1 with|true=>exact absurd e ht|false=>rfl
      have:=h1.2 hf (by rw [hf] at hd;cases e:X o.f2 with|false=>rw [e] at hd;exact absurd rfl hd|true=>rfl)
      subst this
      omega
theorem flow_eq {E:List S48} {ex:Int→Bool} {fr:List Int} {tt:Int} {fl:List Int} {n:Int} (h:FlowOK E ex fr tt fl n) {X:Int→Bool} (hX:Sep fr tt X)
  (hs:∀ (j:Nat) (o:S48) (x:Int),E[j]? = some o→fl[j]? = some x→ex (j:Int) = false→(X o.f1 = true→X o.f2 = false→x = 1)∧(X o.f1 = false→X o.f2 = true→x = -1)):n = cutN (keepF ex 0 E) X:=by
 rw [← h.dot (ind X) (fun s hs=>by unfold ind;rw [if_pos (hX.1 s hs)]) (by unfold ind;rw [hX.2];rfl)]
 exact flow_eq_aux X ex E fl 0 h.len (fun j x hj=>by rw [Nat.zero_add];exact h.bnd j x hj) (fun j o x h1 h2=>by rw [Nat.zero_add];exact hs j o x h1 h2)
def cutsL:List Int→List (Int→Bool)
 | []=>[fun _=>false]
 | v :: r=>(cutsL r).flatMap fun X=>[X,fun u=>u == v || X u]
theorem cutsL_all (p:Int→Bool):∀ vs:List Int,∃ X ∈ cutsL vs,∀ u,X u = (decide (u ∈ vs) && p u):=by
 intro vs
 induction vs with
 | nil=>exact ⟨_,List.mem_singleton.2 rfl,fun u=>by simp⟩
 | cons v r ih =>
  obtain ⟨X,hX,h⟩:=ih
  by_cases hv:p v = true
  ·refine ⟨fun u=>u == v || X u,List.mem_flatMap.2 ⟨X,hX,by simp⟩,fun u=>?_⟩
   show (u == v || X u) = _
   rw [h u]
   by_cases e:u = v
   ·subst e;simp [hv]
   ·have:(u == v) = false:=by simpa using e
    simp [this,e]
  ·refine ⟨X,List.mem_flatMap.2 ⟨X,hX,by simp⟩,fun u=>?_⟩
   rw [h u]
   by_cases e:u = v
   ·subst e;simp [hv]
   ·simp [e]
def sepX (fr:List Int) (tt:Int) (X:Int→Bool):Int→Bool:=fun u=>if u = tt then false else if u ∈ fr then true else X u
def mc (L:List S48) (fr:List Int) (tt:Int):Nat:=((cutsL (isort (ends L))).map fun X=>cutN L (sepX fr tt X)).foldl min L.length
theorem foldl_min_le (l:List Nat) (a:Nat):l.foldl min a≤a∧∀ x ∈ l,l.foldl min a≤x:=by
 induction l generalizing a with
 | nil=>exact ⟨Nat.le_refl _,fun x hx=>by simp at hx⟩
 | cons y l ih =>
  have h:=ih (min a y)
  rw [List.foldl_cons]
  refine ⟨by have:=h.1;omega,fun x hx=>?_⟩
  rcases List.mem_cons.1 hx with rfl|hm
  ·have:=h.1;omega
  ·exact h.2 x hm
theorem foldl_min_mem (l:List Nat) (a:Nat):l.foldl min a = a ∨ l.foldl min a ∈ l:=by
 induction l generalizing a with
 | nil=>exact .inl rfl
 | cons y l ih =>
  rw [List.foldl_cons]
  rcases ih (min a y) with h|h
  ·rw [h]
   by_cases e:a≤y
   ·left;omega
   ·right;rw [Nat.min_eq_right (by omega)];simp
  ·right;exact List.mem_cons_of_mem _ h
theorem cutN_congr {L:List S48} {X Y:Int→Bool} (h:∀ u ∈ ends L,X u = Y u):cutN L X = cutN L Y:=by
 unfold cutN
 refine List.countP_congr fun o ho=>?_
 have h1:=h o.f1 (List.mem_append.2 (.inl (List.mem_map.2 ⟨o,ho,rfl⟩)))
 have h2:=h o.f2 (List.mem_append.2 (.inr (List.mem_map.2 ⟨o,ho,rfl⟩)))
 rw [h1,h2]
theorem sepX_sep {fr:List Int} {tt:Int} (ht:tt ∉ fr) (X:Int→Bool):Sep fr tt (sepX fr tt X) :=
 ⟨fun s hs=>by unfold sepX;rw [if_neg (show ¬ s = tt from fun e=>ht (e ▸ hs)),if_pos hs],by unfold sepX;rw [if_pos rfl]⟩
theorem mc_le {L:List S48} {fr:List Int} {tt:Int} {X:Int→Bool} (hX:Sep fr tt X):mc L fr tt≤cutN L X:=by
 obtain ⟨Y,hY,h⟩:=cutsL_all X (isort (ends L))
 have:=(foldl_min_le ((cutsL (isort (ends L))).map fun X=>cutN L (sepX fr tt X)) L.length).2 _ (List.mem_map.2 ⟨Y,hY,rfl⟩)
 unfold mc
 rw [show cutN L (sepX fr tt Y) = cutN L X from cutN_congr fun u hu=>by
  unfold sepX
  by_cases e:u = tt
  ·rw [if_pos e,e,hX.2]
  ·rw [if_neg e]
   by_cases e2:u ∈ fr
   ·rw [if_pos e2,hX.1 u e2]
   ·rw [if_neg e2,h u,decide_eq_true ((isort_mem _ _).2 hu),Bool.true_and]] at this
 exact this
theorem cutN_len (L:List S48) (X:Int→Bool):cutN L X≤L.length:=List.countP_le_length
theorem mc_ex {L:List S48} {fr:List Int} {tt:Int} (ht:tt ∉ fr):∃ X,Sep fr tt X∧cutN L X = mc L fr tt:=by
 unfold mc
 rcases foldl_min_mem ((cutsL (isort (ends L))).map fun X=>cutN L (sepX fr tt X)) L.length with h|h
 ·refine ⟨sepX fr tt fun _=>false,sepX_sep ht _,?_⟩
  have h1:=mc_le (L:=L) (sepX_sep ht fun _=>false)
  have h2:=cutN_len L (sepX fr tt fun _=>false)
  unfold mc at h1
  omega
 ·obtain ⟨X,hX,e⟩:=List.mem_map.1 h
  exact ⟨sepX fr tt X,sepX_sep ht _,e⟩
theorem mc_of {E:List S48} {ex:Int→Bool} {fr:List Int} {tt:Int} {fl:List Int} {n:Int} (ht:tt ∉ fr) (h:FlowOK E ex fr tt fl n) {X:Int→Bool} (hX:Sep fr tt X) (hn:n = cutN (keepF ex 0 E) X):n = mc (keepF ex 0 E) fr tt:=by
 obtain ⟨Y,hY,e⟩:=mc_ex (L:=keepF ex 0 E) ht
 have h1:=flow_le h hY
 have h2:=mc_le (L:=keepF ex 0 E) hX
 omega
theorem flow_len {E:List S48} {ex:Int→Bool} {fr:List Int} {tt:Int} {fl:List Int} {n:Int} (ht:tt ∉ fr) (h:FlowOK E ex fr tt fl n):n≤E.length:=by
 have h1:=flow_le h (sepX_sep ht fun _=>false)
 have h2:=cutN_len (keepF ex 0 E) (sepX fr tt fun _=>false)
 have h3:∀ (i:Nat) (E:List S48),(keepF ex i E).length≤E.length:=by
  intro i E
  induction E generalizing i with
  | nil=>exact Nat.le_refl _
  | cons o E ih =>
   unfold keepF
   split
   ·have:=ih (i + 1);simp;omega
   ·have:=ih (i + 1);simp;omega
 have:=h3 0 E
 omega
def Res (E:List S48) (ex:Int→Bool) (fl:List Int) (i u v:Int):Prop :=
 0≤i∧∃ o x,E[i.toNat]? = some o∧fl[i.toNat]? = some x∧otherO o u = some v∧ex i = false∧(if u = o.f1 then x < 1 else -1 < x)
abbrev Sts:=Int→Option (Int × Int)
structure Bfs (E:List S48) (ex:Int→Bool) (fr:List Int) (fl:List Int) (q:List Int) (st:Sts):Prop where
 nodup:q.Nodup
 known:∀ v,(st v).isSome = true ↔ v ∈ q
 way:∀ (j:Nat) (v:Int),q[j]? = some v→(v ∈ fr∧st v = some (-1,-1)) ∨ ∃ (i u:Int) (j':Nat),st v = some (i,u)∧j' < j∧q[j']? = some u∧Res E ex fl i u v
theorem nodup_get {q:List Int} (h:q.Nodup) {a b:Nat} {v:Int} (ha:q[a]? = some v) (hb:q[b]? = some v):a = b:=by
 have h1:=(List.getElem?_eq_some_iff.1 ha).1
 have h2:=(List.getElem?_eq_some_iff.1 hb).1
 rw [List.getElem?_eq_getElem h1] at ha
 rw [List.getElem?_eq_getElem h2] at hb
 have e:q[a] = q[b]:=by rw [Option.some.inj ha,Option.some.inj hb]
 exact (List.getElem_inj h).1 e
theorem Bfs.add {E:List S48} {ex:Int→Bool} {fr fl q:List Int} {st:Sts} (h:Bfs E ex fr fl q st) {i u v:Int} {j':Nat} (hv:st v = none) (hu:q[j']? = some u) (hr:Res E ex fl i u v) :
  Bfs E ex fr fl (q ++ [v]) (fun j=>if j = v then some (i,u) else st j):=by
 have hvq:v ∉ q:=fun e=>by have:=(h.known v).2 e;rw [hv] at this;cases this
 have hj':=(List.getElem?_eq_some_iff.1 hu).1
 refine ⟨List.nodup_append.2 ⟨h.nodup,by simp,fun a ha b hb=>by simp at hb;subst hb;exact fun e=>hvq (e ▸ ha)⟩,fun w=>?_,fun j w hj=>?_⟩
 ·by_cases e:w = v
  ·simp [e]
  ·simp [e,h.known w]
 ·by_cases hl:j < q.length
  ·rw [List.getElem?_append_left hl] at hj
   have hw:w≠v:=fun e=>hvq (e ▸ List.mem_of_getElem? hj)
   rcases h.way j w hj with ⟨h1,h2⟩|⟨i1,u1,j1,h1,h2,h3,h4⟩
   ·exact .inl ⟨h1,by rw [if_neg hw];exact h2⟩
   ·exact .inr ⟨i1,u1,j1,by rw [if_neg hw];exact h1,h2,by rw [List.getElem?_append_left (by omega)];exact h3,h4⟩
  ·have hjl:=(List.getElem?_eq_some_iff.1 hj).1
   rw [List.length_append,List.length_singleton] at hjl
   obtain rfl:j = q.length:=by omega
   have hw:v = w:=by simpa using hj
   subst hw
   exact .inr ⟨i,u,j',by rw [if_pos rfl],hj',by rw [List.getElem?_append_left hj'];exact hu,hr⟩
structure Back (E:List S48) (ex:Int→Bool) (fr:List Int) (tt:Int) (fl q:List Int) (st:Sts) (n:Int) (f1:List Int) (j:Nat) (v:Int):Prop where
 here:q[j]? = some v
 len:f1.length = E.length
 bnd:∀ (i:Nat) (x:Int),f1[i]? = some x→-1≤x∧x≤1∧(ex i = true→x = 0)
 dot:∀ p:Int→Int,(∀ s ∈ fr,p s = 1)→p tt = 0→dotP p E f1 = n + p v
 same:∀ (a:Nat) (w i u:Int),a≤j→q[a]? = some w→st w = some (i,u)→0≤i→f1[i.toNat]? = fl[i.toNat]?
theorem otherO_two {o:S48} {u v:Int} (h:otherO o u = some v):(u = o.f1∧v = o.f2) ∨ (u = o.f2∧v = o.f1∧u≠o.f1):=by
 unfold otherO at h
 by_cases e:u = o.f1
 ·rw [if_pos e] at h;injection h with h;exact .inl ⟨e,h.symm⟩
 ·rw [if_neg e] at h
  by_cases e2:u = o.f2
  ·rw [if_pos e2] at h;injection h with h;exact .inr ⟨e2,h.symm,e⟩
  ·rw [if_neg e2] at h;cases h
theorem Back.step {E:List S48} {ex:Int→Bool} {fr:List Int} {tt:Int} {fl q:List Int} {st:Sts} {n:Int} {f1:List Int} {j:Nat} {v i u:Int} (hB:Bfs E ex fr fl q st) (h:Back E ex fr tt fl q st n f1 j v) (hs:st v = some (i,u)) (hi:0≤i) :
  ∃ (o:S48) (x:Int) (j':Nat),E[i.toNat]? = some o∧f1[i.toNat]? = some x∧j' < j∧Back E ex fr tt fl q st n (f1.set i.toNat (if o.f2 = v then x + 1 else x - 1)) j' u:=by
 rcases hB.way j v h.here with ⟨_,h2⟩|⟨i1,u1,j1,h1,h2,h3,h4⟩
 ·rw [hs] at h2;injection h2 with h2;injection h2 with h2 _;omega
 ·rw [hs] at h1
  injection h1 with h1
  injection h1 with e1 e2
  subst e1 e2
  obtain ⟨_,o,x,ho,hx,hot,hex,hcap⟩:=h4
  have hfx:f1[i.toNat]? = some x:=(h.same j v i u (Nat.le_refl _) h.here hs hi).trans hx
  have hil:=(List.getElem?_eq_some_iff.1 hfx).1
  have hb:=h.bnd i.toNat x hfx
  have huv:u≠v:=fun e=>by subst e;have:=nodup_get hB.nodup h3 h.here;omega
  refine ⟨o,x,j1,ho,hfx,h2,h3,by rw [List.length_set];exact h.len,fun k y hk=>?_,fun p hp1 hp2=>?_,fun a w i2 u2 ha hw hst hi2=>?_⟩
  ·by_cases e:k = i.toNat
   ·subst e
    rw [List.getElem?_set_self hil] at hk
    injection hk with hk
    subst hk
    have hex2:¬ ex ((i.toNat:Nat):Int) = true:=by rw [show ((i.toNat:Nat):Int) = i from by omega,hex];decide
    rcases otherO_two hot with ⟨e1,e2⟩|⟨e1,e2,e3⟩
    ·rw [if_pos e1] at hcap
     rw [if_pos e2.symm]
     exact ⟨by omega,by omega,fun h=>absurd h hex2⟩
    ·rw [if_neg e3] at hcap
     rw [if_neg (by rw [← e1];exact huv)]
     exact ⟨by omega,by omega,fun h=>absurd h hex2⟩
   ·rw [List.getElem?_set_ne (fun e2=>e e2.symm)] at hk
    exact h.bnd k y hk
  ·have hd:=h.dot p hp1 hp2
   rcases otherO_two hot with ⟨e1,e2⟩|⟨e1,e2,e3⟩
   ·rw [if_pos e2.symm,dotP_set p E f1 i.toNat o x 1 ho hfx,hd,← e1,← e2]
    omega
   ·rw [if_neg (by rw [← e1];exact huv),show x - 1 = x + -1 from rfl,dotP_set p E f1 i.toNat o x (-1) ho hfx,hd,← e1,← e2]
    omega
  ·have hne:i2.toNat≠i.toNat:=fun e=>by
    rcases hB.way a w hw with ⟨_,h5⟩|⟨i3,u3,j3,h5,h6,h7,h8⟩
    ·rw [hst] at h5;injection h5 with h5;injection h5 with h5 _;omega
    ·rw [hst] at h5
     injection h5 with h5
     injection h5 with e5 e6
     subst e5 e6
     obtain ⟨_,o2,x2,ho2,_,hot2,_⟩:=h8
     rw [e,ho] at ho2
     injection ho2 with ho2
     subst ho2
     have hwv:w≠v:=fun e9=>by subst e9;have:=nodup_get hB.nodup hw h.here;omega
     have hu2:u2 = v:=by
      rcases otherO_two hot with ⟨e1,e2⟩|⟨e1,e2,e3⟩<;>rcases otherO_two hot2 with ⟨f1,f2⟩|⟨f1,f2,f3⟩
      ·exact absurd (f2.trans e2.symm) hwv
      ·rw [f1,e2]
      ·rw [f1,e2]
      ·exact absurd (f2.trans e2.symm) hwv
     rw [hu2] at h7
     have:=nodup_get hB.nodup h7 h.here
     omega
   rw [List.getElem?_set_ne (fun e2=>hne e2.symm)]
   exact h.same a w i2 u2 (by omega) hw hst hi2
theorem Back.root {E:List S48} {ex:Int→Bool} {fr:List Int} {tt:Int} {fl q:List Int} {st:Sts} {n:Int} {f1:List Int} {j:Nat} {v i u:Int} (hB:Bfs E ex fr fl q st) (h:Back E ex fr tt fl q st n f1 j v) (hs:st v = some (i,u)) (hi:¬ 0≤i):FlowOK E ex fr tt f1 (n + 1):=by
 rcases hB.way j v h.here with ⟨h1,_⟩|⟨i1,u1,j1,h1,_,_,h4⟩
 ·exact ⟨h.len,h.bnd,fun p hp1 hp2=>by rw [h.dot p hp1 hp2,hp1 v h1]⟩
 ·rw [hs] at h1
  injection h1 with h1
  injection h1 with e1 _
  have:=h4.1
  omega
theorem Back.start {E:List S48} {ex:Int→Bool} {fr:List Int} {tt:Int} {fl q:List Int} {st:Sts} {n:Int} (hF:FlowOK E ex fr tt fl n) {j:Nat} (hj:q[j]? = some tt):Back E ex fr tt fl q st n fl j tt :=
 ⟨hj,hF.len,hF.bnd,fun p hp1 hp2=>by rw [hF.dot p hp1 hp2,hp2];omega,fun _ _ _ _ _ _ _ _=>rfl⟩
theorem bfs_done {E:List S48} {ex:Int→Bool} {fr:List Int} {tt:Int} {fl q:List Int} {st:Sts} {n:Int} (ht:tt ∉ fr) (hF:FlowOK E ex fr tt fl n) (hB:Bfs E ex fr fl q st) (hfr:∀ s ∈ fr,s ∈ q)
  (hscan:∀ (j:Nat) (u:Int),q[j]? = some u→∀ (i v:Int),Res E ex fl i u v→v ∈ q) (hno:st tt = none):n = mc (keepF ex 0 E) fr tt:=by
 have hX:Sep fr tt fun u=>decide (u ∈ q):=⟨fun s hs=>decide_eq_true (hfr s hs),decide_eq_false fun e=>by have:=(hB.known tt).2 e;rw [hno] at this;cases this⟩
 refine mc_of ht hF hX (flow_eq hF hX fun j o x ho hx hex=>⟨fun h1 h2=>?_,fun h1 h2=>?_⟩)
 ·have hb:=hF.bnd j x hx
  rcases (by omega:x = 1 ∨ x < 1) with h|h
  ·exact h
  ·exfalso
   obtain ⟨a,ha⟩:=List.getElem?_of_mem (of_decide_eq_true h1)
   exact of_decide_eq_false h2 (hscan a o.f1 ha j o.f2 ⟨by omega,o,x,by simpa using ho,by simpa using hx,by unfold otherO;rw [if_pos rfl],hex,by rw [if_pos rfl];exact h⟩)
 ·have hb:=hF.bnd j x hx
  rcases (by omega:x = -1 ∨ -1 < x) with h|h
  ·exact h
  ·exfalso
   obtain ⟨a,ha⟩:=List.getElem?_of_mem (of_decide_eq_true h2)
   have hne:o.f2≠o.f1:=fun e=>by rw [e] at h2;rw [h2] at h1;cases h1
   exact of_decide_eq_false h1 (hscan a o.f2 ha j o.f1 ⟨by omega,o,x,by simpa using ho,by simpa using hx,by unfold otherO;rw [if_neg hne,if_pos rfl],hex,by rw [if_neg hne];exact h⟩)
def NetB (W:World) (xb:Nat) (A0:Option Addr) (c0:Nat) (E:List S48) (A1:Option Addr) (c1:Nat) (fr:List Int) (tt:Int) (fb:Nat) (g:Nat) (lb:Array Value):Prop :=
 W.heap[xb]? = some (.cells #[.slice A0 E.length c0,.slice A1 fr.length c1,.int .i64 tt,.slice (some ⟨fb,0,none⟩) E.length E.length,.func (.func g) #[] lb] 111 (0,0))
def PredI (g:Nat) (lb:Array Value) (p:Int→Bool) (w:World):Prop :=
 ∀ (W:World) (x:Int),wfI x→Below w.heap.size w W→Calls Try.prog g (#[.int .i64 x] ++ lb) W fun e w'=>e = .returned (.bool (p x))∧Below W.heap.size W w'
def capM (o:S48) (x:Int) (exi:Bool) (n:Int):Int × Bool :=
 match otherO o n with
 | none=>(0,false)
 | some m=>if exi = true then (0,false) else (m,if n = o.f1 then decide (x < 1) else decide (-1 < x))
theorem ret2 {a b:Int} {p q:Bool} (h1:a = b) (h2:p = q):Ending.returned (.tuple #[.int .i64 a,.bool p]) = Ending.returned (.tuple #[.int .i64 b,.bool q]):=by rw [h1,h2]
set_option maxHeartbeats 4000000 in
set_option maxRecDepth 100000 in
theorem cap112 {w W:World} {xb:Nat} {A0:Option Addr} {c0:Nat} {E:List S48} {A1:Option Addr} {c1:Nat} {fr:List Int} {tt:Int} {fb g:Nat} {lb:Array Value} {fl:List Int} {ex:Int→Bool} (i:Nat) (n:Int) (o:S48) (x:Int)
  (hN:NetB W xb A0 c0 E A1 c1 fr tt fb g lb) (hE:Kd.C k48 W A0 E.length E) (hF:Kd.C (Kd.int .i64) W (some ⟨fb,0,none⟩) E.length fl) (hW:Below w.heap.size w W) (hp:PredI g lb ex w) (eg:∀ args w,(callFunc g args).run Try.prog w = .ok (.enter g args) w)
  (ho:E[i]? = some o) (hx:fl[i]? = some x) {m:Int} {b:Bool} (hr:capM o x (ex i) n = (m,b)) :
  Calls Try.prog 112 #[.pointer (some ⟨xb,0,none⟩),.int .i64 i,.int .i64 n] W fun e w'=>e = .returned (.tuple #[.int .i64 m,.bool b])∧Below W.heap.size W w':=by
 have hu48:=Try.underlying48
 have hil:=(List.getElem?_eq_some_iff.1 ho).1
 have hmax:=hE.2.1
 have hwi:wfI (i:Int):=wfI_of (by omega) (by omega)
 have k0:=(blk_cell hN 0).trans (show _ = some (Value.slice A0 E.length c0) from rfl)
 have k3:=(blk_cell hN 3).trans (show _ = some (Value.slice (some ⟨fb,0,none⟩) E.length E.length) from rfl)
 have k4:=(blk_cell hN 4).trans (show _ = some (Value.func (.func g) #[] lb) from rfl)
 have hilz:(i:Int) < (E.length:Int):=by omega
 obtain ⟨ad,e,h0,h1,h2,h3,h4,h5,h6⟩:=at_T48 hE i (by omega) hilz
 cases e
 simp only [Int.toNat_natCast] at h0 h1 h2 h3 h4 h5 h6
 have ho2:rd_T48 E (i:Int) = o:=Option.some.inj ((rd48_get E i hil).symm.trans ho)
 rw [ho2] at h0 h1 h2 h3 h4 h5 h6
 have hfl:fl.length = E.length:=hF.1
 obtain ⟨ad2,e,q0⟩:=int_at hF i hilz
 injection e with e
 subst e
 have hx2:rdOf 0 fl (i:Int) = x:=Option.some.inj ((rd_get fl i (by omega)).symm.trans hx)
 rw [hx2] at q0
 rw [add_plain] at q0
 have HW:=Aside0.mk hW
 have HP:=Aside0.mk hp
 have HR:=Aside0.mk hr
 have hf:∀ W',Below W.heap.size W W'→W'.cell? ⟨xb,0,none⟩ = some (.slice (some ad) E.length c0)∧W'.cell? ⟨xb,3,none⟩ = some (.slice (some ⟨fb,0,none⟩) E.length E.length)∧W'.cell? ⟨xb,4,none⟩ = some (.func (.func g) #[] lb)∧W'.cell? ⟨(ad.add (i * 7)).block,(ad.add (i * 7)).off + 1,none⟩ = some (.int .i64 o.f1)∧W'.cell? ⟨fb,i,none⟩ = some (.int .i64 x) :=
  fun W' h=>⟨pw_cell_below h k0,pw_cell_below h k3,pw_cell_below h k4,pw_cell_below h h1,pw_cell_below h q0⟩
 have HF:=Aside0.mk hf
 clear hf hW hp hr hN hE hF ho hx ho2 hx2 hfl hil
 cases hot:otherO o n with
 | none =>
  have hc:=other_none hot W
  have HOT:=Aside0.mk hot
  clear hot
  go_enter Try.func112,Try.ntmps112
  go_wp2_with fail
  refine hc.mono ?_
  rintro e w2 ⟨rfl,hb2⟩
  have HB:=Aside0.mk hb2
  clear hb2
  go_wp2_with fail
  go_ret2
  have h:=HR.out
  unfold capM at h
  rw [HOT.out] at h
  injection h with e1 e2
  subst e1 e2
  exact ⟨rfl,HB.out⟩
 | some m1 =>
  have hc:=other_some hot W
  have HOT:=Aside0.mk hot
  clear hot
  cases hex:ex i with
  | true =>
   have HEX:=Aside0.mk hex
   have hcall:=fun W' (h:Below W.heap.size W W')=>HP.out W' (i:Int) hwi (below_then HW.out HW.out.size h)
   rw [hex] at hcall
   have HCA:=Aside0.mk hcall
   clear hex hcall
   go_enter Try.func112,Try.ntmps112
   go_wp2_with fail
   refine hc.mono ?_
   rintro e w2 ⟨rfl,hb2⟩
   have HB:=Aside0.mk hb2
   obtain ⟨p0,p3,p4,p5,p6⟩:=HF.out w2 hb2
   clear hb2 k0 k3 k4 h0 h1 h2 h3 h4 h5 h6 q0 hc
   go_wp2_with fail
   refine (HCA.out w2 HB.out).mono ?_
   rintro e w3 ⟨rfl,hb3⟩
   have HB3:=Aside0.mk (below_then HB.out HB.out.size hb3)
   clear hb3
   go_wp2_with fail
   go_ret2
   have h:=HR.out
   unfold capM at h
   rw [HOT.out,HEX.out] at h
   injection h with e1 e2
   subst e1 e2
   exact ⟨rfl,HB3.out⟩
  | false =>
   have HEX:=Aside0.mk hex
   have hcall:=fun W' (h:Below W.heap.size W W')=>HP.out W' (i:Int) hwi (below_then HW.out HW.out.size h)
   rw [hex] at hcall
   have HCA:=Aside0.mk hcall
   clear hex hcall
   have hR:(m1,if n = o.f1 then decide (x < 1) else decide (-1 < x)) = (m,b):=by
    have h:=HR.out
    unfold capM at h
    rw [HOT.out,HEX.out] at h
    exact h
   injection hR with e1 e2
   subst e1
   have HE2:=Aside0.mk e2
   clear e2
   have hi0:(0:Int)≤(i:Int):=by omega
   by_cases hn:n = o.f1
   ·have hnb:(n == o.f1) = true:=beq_iff_eq.2 hn
    have hE2:decide (x < 1) = b:=by have h:=HE2.out;rwa [if_pos hn] at h
    have HE3:=Aside0.mk hE2
    clear hn hE2
    go_enter Try.func112,Try.ntmps112
    go_wp2_with fail
    refine hc.mono ?_
    rintro e w2 ⟨rfl,hb2⟩
    have HB:=Aside0.mk hb2
    obtain ⟨p0,p3,p4,p5,p6⟩:=HF.out w2 hb2
    clear hb2 k0 k3 k4 h0 h1 h2 h3 h4 h5 h6 q0 hc
    go_wp2_with fail
    refine (HCA.out w2 HB.out).mono ?_
    rintro e w3 ⟨rfl,hb3⟩
    have HB3:=Aside0.mk (below_then HB.out HB.out.size hb3)
    obtain ⟨r0,r3,r4,r5,r6⟩:=HF.out w3 HB3.out
    clear hb3 p0 p3 p4 p5 p6
    go_wp2_with fail
    go_quiet (fail)
    go_wp2_with fail
    go_ret2
    exact ⟨ret2 rfl HE3.out,HB3.out.trans (pw_below_drewN (Below.refl _ _) _)⟩
   ·have hnb:(n == o.f1) = false:=beq_eq_false_iff_ne.2 hn
    have hE2:decide (-1 < x) = b:=by have h:=HE2.out;rwa [if_neg hn] at h
    have HE3:=Aside0.mk hE2
    clear hn hE2
    go_enter Try.func112,Try.ntmps112
    go_wp2_with fail
    refine hc.mono ?_
    rintro e w2 ⟨rfl,hb2⟩
    have HB:=Aside0.mk hb2
    obtain ⟨p0,p3,p4,p5,p6⟩:=HF.out w2 hb2
    clear hb2 k0 k3 k4 h0 h1 h2 h3 h4 h5 h6 q0 hc
    go_wp2_with fail
    refine (HCA.out w2 HB.out).mono ?_
    rintro e w3 ⟨rfl,hb3⟩
    have HB3:=Aside0.mk (below_then HB.out HB.out.size hb3)
    obtain ⟨r0,r3,r4,r5,r6⟩:=HF.out w3 HB3.out
    clear hb3 p0 p3 p4 p5 p6
    go_wp2_with fail
    go_quiet (fail)
    go_wp2_with fail
    go_ret2
    exact ⟨ret2 rfl HE3.out,HB3.out.trans (pw_below_drewN (Below.refl _ _) _)⟩
theorem index_ev (l:List Int) (a:Int) (hl:l.length≤9223372036854775807):∃ k,slices_Index_int_int.f k l a = some (fidx (fun x=>decide (a = x)) l 0):=by
 have key:∀ d (i:Nat),l.length - i = d→i≤l.length→slices_Index_int_int.l0 (d + 1) l a (l.length:Int) (i:Int) = some (fidx (fun x=>decide (a = x)) (l.drop i) i):=by
  intro d
  induction d with
  | zero =>
   intro i hd hi
   simp only [slices_Index_int_int.l0]
   rw [if_neg (by omega),List.drop_of_length_le (by omega)]
   rfl
  | succ d ih =>
   intro i hd hi
   have hlt:i < l.length:=by omega
   generalize hk:d + 1 = k at ih hd ⊢
   simp only [slices_Index_int_int.l0]
   rw [if_pos (by omega),if_pos (by omega),if_pos (by omega),rd_nat l i hlt,List.drop_eq_getElem_cons hlt]
   unfold fidx
   by_cases hc:a = l[i]
   ·rw [if_pos hc,if_pos (decide_eq_true hc)]
   ·rw [if_neg hc,if_neg (by simpa using hc),wi1 hlt hl]
    subst hk
    exact ih (i + 1) (by omega) (by omega)
 exact ⟨_,key _ 0 rfl (by omega)⟩
theorem any_eq_mem (l:List Int) (a:Int):l.any (fun x=>decide (a = x)) = decide (a ∈ l):=by
 rw [Bool.eq_iff_iff,List.any_eq_true,decide_eq_true_iff]
 constructor
 ·rintro ⟨x,hx,he⟩;rw [of_decide_eq_true he];exact hx
 ·intro h;exact ⟨a,h,decide_eq_true rfl⟩
theorem cont37 (A:Option Addr) (c:Nat) (l:List Int) (a:Int) (w:World) (hr:Kd.C (Kd.int .i64) w A l.length l) (hc:l.length≤c) :
  Calls Try.prog 37 #[.slice A l.length c,.int .i64 a] w fun e w'=>e = .returned (.bool (decide (a ∈ l)))∧∃ n,w' = w.drewN n:=by
 obtain ⟨k,hk⟩:=index_ev l a hr.2.1
 have h:slices_Contains_int_int.f k l a = some (decide (a ∈ l)):=by
  unfold slices_Contains_int_int.f
  rw [hk,Option.bind_some,← any_eq_mem,fidx_any _ l 0]
 exact (slices_Contains_int_int.calls k A c l a _ w hr hc h).mono fun _ _ h=>⟨h.1,h.2.out⟩
theorem cont_is {l:List Int} {a:Int} {b:Bool} (h:decide (a ∈ l) = b) (A:Option Addr) (c:Nat) (w:World) (hr:Kd.C (Kd.int .i64) w A l.length l) (hc:l.length≤c) :
  Calls Try.prog 37 #[.slice A l.length c,.int .i64 a] w fun e w'=>e = .returned (.bool b)∧∃ n,w' = w.drewN n:=h ▸ cont37 A c l a w hr hc
section
variable {ops : Array Oper} {rest : List Oper} {o : Oper} {a : Act} {Q : Exit → Act → World → Prop}
theorem MapV.get_some {W:World} {b n:Nat} {f:Int→Option Value} (h:MapV W b n f) {k:Int} {v:Value} (hf:f k = some v) (t e:TypeId) (z:Value) (ht:Try.prog.underlying t = some (.map 3 e)) (hz:∀ w,(zeroValue e).run Try.prog w = .ok z w)
  (hg:o.guard = none) (m x:Operand) (hop:o.op = Op.lookup t m x false) (hm:a.eval m = .map (some b)) (hx:a.eval x = .int .i64 k) (hk:wfI k)
  (hK:wpList Try.prog ops Q rest (a.put o.dst v) W):wpList Try.prog ops Q (o :: rest) a W:=by
 refine h.lookup t e z ht hz hg m x hop hm k hx hk ?_
 rw [hf]
 exact hK
end
def traceOf (op:List S48) (fr:List Int) (n:Int):S29:=⟨n,(waysF op fr n).getD []⟩
def tracesL (op:List S48) (fr:List Int):List S29:=((reachL op fr).filter fun n=>!decide (n ∈ fr)).map (traceOf op fr)
def connection_Traces.f (l0:List S48) (l1 l2:List Int):Option (List S29 × Int):=(connection_chosen.f l0 l1 l2).bind fun t=>some (if t.2 = 0 then (tracesL t.1 l2,0) else ([],t.2))
theorem tr_snoc (op:List S48) (fr:List Int) (a:List Int) (x:Int):((a ++ [x]).filter fun n=>!decide (n ∈ fr)).map (traceOf op fr) = if x ∈ fr then (a.filter fun n=>!decide (n ∈ fr)).map (traceOf op fr) else (a.filter fun n=>!decide (n ∈ fr)).map (traceOf op fr) ++ [traceOf op fr x]:=by
 rw [List.filter_append,List.map_append]
 by_cases h:x ∈ fr
 ·rw [if_pos h];simp [h]
 ·rw [if_neg h];simp [h]
theorem reachL_len (op:List S48) (fr:List Int):(reachL op fr).length≤fr.length + 2 * op.length:=Nat.le_trans (List.length_filter_le _ _) (univ_len op fr)
set_option maxHeartbeats 4000000 in
set_option maxRecDepth 100000 in
theorem connection_Traces.calls (A0:Option Addr) (c0:Nat) (l0:List S48) (A1:Option Addr) (c1:Nat) (l1:List Int) (A2:Option Addr) (c2:Nat) (l2:List Int) (r1:List S29) (r2:Int) (w:World)
  (hr0:Kd.C k48 w A0 l0.length l0) (hc0:l0.length≤c0) (hr1:Kd.C (Kd.int .i64) w A1 l1.length l1) (hc1:l1.length≤c1) (hr2:Kd.C (Kd.int .i64) w A2 l2.length l2) (hc2:l2.length≤c2) (h:connection_Traces.f l0 l1 l2 = some (r1,r2)) :
  Calls Try.prog 18 #[.slice A0 l0.length c0,.slice A1 l1.length c1,.slice A2 l2.length c2] w fun e w'=>∃ v0_:Value,e = .returned (.tuple #[v0_,.int .i64 r2])∧Kd.R k29 29 w' w.heap.size (fun _=>True) v0_ r1∧Below w.heap.size w w':=by
 unfold connection_Traces.f at h
 obtain ⟨⟨o,e⟩,ho,h⟩:=Option.bind_eq_some_iff.1 h
 have HC:=Aside0.mk (connection_chosen.calls A0 c0 l0 A1 c1 l1 A2 c2 l2 o e w hr0 hc0 hr1 hc1 hr2 hc2 ho)
 have HR2:=Aside0.mk hr2
 have HC2:=Aside0.mk hc2
 have HO:=Aside0.mk ho
 replace h:=Option.some.inj h
 clear hr0 hc0 hr1 hc1 hr2 hc2 ho
 by_cases he:e = 0
 ·subst he
  rw [if_pos rfl] at h
  injection h with h1 h2
  subst h1 h2
  go_enter Try.func18,Try.ntmps18
  go_wp2_with fail
  refine HC.out.mono ?_
  rintro e w1 ⟨v1,rfl,ho1,hb1⟩
  obtain ⟨A,c,ev,hlc,hC⟩:=Kd.R_reads ho1
  subst ev
  have HCo:=Aside0.mk hC
  have HLc:=Aside0.mk hlc
  have HB:=Aside0.mk hb1
  clear ho1 hC hlc hb1
  go_wp2_with fail
  refine (ways54 A c o A2 c2 l2 w1 HCo.out HLc.out (Kd.C_below HR2.out HB.out) HC2.out (ways_ok HO.out).1 (ways_ok HO.out).2.1 (ways_ok HO.out).2.2).mono ?_
  rintro e w2 ⟨b,n,f,rfl,hn,hM,hW,hb2⟩
  have HM:=Aside0.mk hM
  have HW:=Aside0.mk hW
  have HS:=Aside0.mk (fun k=>hW.isSome k)
  have HBA:=Aside0.mk HB.out.size
  replace HB:=Aside0.mk (below_then HB.out HB.out.size hb2)
  have HW2:=Aside0.mk hb2
  clear hM hW hb2
  go_wp2_with fail
  refine (keys53 _ _).mono ?_
  rintro e w6 ⟨rfl,rfl⟩
  go_wp2_with fail
  refine (sorted52A w2 b n f HM.out (by omega)).mono ?_
  rintro e w7 ⟨v7,ss,rfl,hs1,hs2,hs3,hs4,hs5⟩
  have hss:ss = reachL o l2:=reach_eq hs1 hs2 HS.out
  have hbl:Below w2.heap.size w2 w7:=(below_alloc (Below.refl w2.heap.size w2) (.cells #[.map (some b)] 78)).trans (hs5.mono (by simp))
  replace HM:=Aside0.mk (HM.out.below hbl)
  replace HW:=Aside0.mk (HW.out.below hbl)
  obtain ⟨A7,c7,rfl⟩:=Kd.R_slice hs4
  have hsl:ss.length≤200:=by
   rw [hss]
   have h1:=reachL_len o l2
   have h2:=ways_ok HO.out
   omega
  have HL7:=Aside0.mk (Kd.R_lower hs4 (show w1.heap.size≤(w2.alloc (.cells #[.map (some b)] 78)).heap.size from below_size (below_alloc HW2.out _)))
  replace HB:=Aside0.mk (below_then HB.out HB.out.size hbl)
  have HSS:=Aside0.mk hss
  clear hs1 hs2 hs3 hs4 hs5 hss hbl HS HW2
  have HT:=Aside0.mk (Kd.R_nil k29 29 w7 w.heap.size (fun _=>True))
  have HW1:=Aside0.mk (Below.refl w7.heap.size w7)
  go_wp2_with fail
  go_loopg [11,13,31] ss.length (fun gg s11 s13 s31 wr=>∃ (kk:Nat) (acc:List S29),kk≤ss.length∧ss.length - kk≤gg∧s31 = .int .i64 kk∧acc.length≤kk∧Aside0 (acc = ((ss.take kk).filter fun n=>!decide (n ∈ l2)).map (traceOf o l2))
   ∧ Aside0 (Kd.R k29 29 wr w.heap.size (fun _=>True) s11 acc)∧Aside0 (MapV wr b n f)∧Aside0 (WayR wr w1.heap.size f (waysF o l2) 1000)∧Aside0 (RI wr w1.heap.size (.slice A7 ss.length c7) ss)∧Aside0 (Below w.heap.size w wr))
  case atStart=>exact ⟨0,[],Nat.zero_le _,by omega,rfl,by simp,⟨by rw [List.take_zero];first|done|rfl⟩,HT,HM,HW,HL7,HB⟩
  case round =>
   clear HT HM HW HL7 HB HW1
   obtain ⟨kk,acc,hkk,hg,rfl,hal,HA,HT,HM,HW,HL,HB⟩:=hrel
   by_cases hlt:kk < ss.length
   ·have hltz:(kk:Int) < (ss.length:Int):=by omega
    obtain ⟨ad,e,h0⟩:=int_at (RI_C HL.out).2 kk hltz
    cases e
    have HG:=Aside0.mk (rd_get ss kk hlt)
    generalize rdOf 0 ss (kk:Int) = x at h0 HG
    have HTS:=Aside0.mk (tr_snoc o l2 (ss.take kk) x)
    rw [← take_snoc_of HG.out,← HA.out] at HTS
    have hxr:x ∈ reachL o l2:=by rw [← HSS.out];exact List.mem_of_getElem? HG.out
    have HXR:=Aside0.mk (keysW_mem.1 hxr)
    clear hxr
    go_wp2_with fail
    cases hxm:decide (x ∈ l2) with
    | true =>
     refine (cont_is hxm A2 c2 wr (Kd.C_below HR2.out HB.out) HC2.out).mono ?_
     rintro e w8 ⟨rfl,nd,rfl⟩
     have hbd:Below wr.heap.size wr (wr.drewN nd):=pw_below_drewN (Below.refl _ _) nd
     have HXM:=Aside0.mk (of_decide_eq_true hxm)
     clear hxm
     go_wp2_with fail
     go_roundg (ss.length - (kk + 1))
     case measure=>omega
     case rel=>exact ⟨kk + 1,acc,by omega,by omega,by go_num,by omega,⟨by rw [HTS.out,if_pos HXM.out]⟩,⟨Kd.R_below HT.out hbd⟩,⟨HM.out.below hbd⟩,⟨HW.out.below hbd⟩,⟨Kd.R_below HL.out hbd⟩,⟨below_then HB.out HB.out.size hbd⟩⟩
    | false =>
     refine (cont_is hxm A2 c2 wr (Kd.C_below HR2.out HB.out) HC2.out).mono ?_
     rintro e w8 ⟨rfl,nd,rfl⟩
     have hbd:Below wr.heap.size wr (wr.drewN nd):=pw_below_drewN (Below.refl _ _) nd
     have HXM:=Aside0.mk (of_decide_eq_false hxm)
     replace HT:=Aside0.mk (Kd.R_below HT.out hbd)
     replace HM:=Aside0.mk (HM.out.below hbd)
     replace HW:=Aside0.mk (HW.out.below hbd)
     replace HL:=Aside0.mk (Kd.R_below HL.out hbd)
     replace HB:=Aside0.mk (below_then HB.out HB.out.size hbd)
     clear hxm hbd h0
     obtain ⟨lw,hlw⟩:=Option.isSome_iff_exists.1 HXR.out.2
     obtain ⟨⟨vw,hvw,hRw⟩,hlen⟩:=HW.out.some_ hlw
     obtain ⟨Aw,cw,ew,_,_⟩:=Kd.R_reads hRw
     subst ew
     have HLW:=Aside0.mk hlw
     have HVW:=Aside0.mk hvw
     have HRW:=Aside0.mk (Kd.R_mono (Kd.R_lower (Kd.R_apartR hRw HT.out (by decide)) HBA.out) (ok':=fun k=>some k≠u11.ownBlock) (fun k hk=>hk.2))
     have HXW:=Aside0.mk (HM.out.wf hvw)
     clear hlw hvw hRw hlen
     go_wp2_with (first
      | (at_lookup;refine MapV.get_some HM.out HVW.out 78 23 (.slice none 0 0) Try.underlying78 zero23 rfl _ _ rfl rfl rfl HXW.out ?_)
      | ((with_reducible refine gate_builtin (b:=.append) (xs:=#[.tmp 39,.tmp 45]) rfl ?_);at_builtin;refine Kd.R_append k29 (w0:=w) w.heap.size rfl (.tmp 39) (.tmp 45) 24 29 (.agg #[.int .i64 0,.slice none 0 0]) 32 rfl Try.underlying24 info29 rfl (by decide) (by decide) u11 acc ⟨x,lw⟩ [.int .i64 x,.slice Aw lw.length cw] (fun _=>True) (fun k=>some k≠u11.ownBlock) rfl rfl ?aP (fun k hk=>⟨trivial,hk⟩) (fun _ _=>trivial) ?aO ?aB ?aS ?aL ?_;(case aP=>exact k29_mkM _ _ _ _ rx_);(case aB=>exact bx_);(case aO=>exact rx_);(case aS=>exact below_size bx_);(case aL=>omega);intro v3 w3 ho hb hg_ hat;have HO3:=Aside0.mk ho;have HB3:=Aside0.mk hb;have HG3:=Aside0.mk hg_;clear ho hb hg_ hat))
     have hmv:MapV w3 b n f:=by
      refine HM.out.grown HG3.out (fun e=>?_)
      obtain ⟨es,ck,hbk⟩:=HM.out.blk
      obtain ⟨inner,hown⟩:=Kd.R_own HT.out
      obtain ⟨cells,hc⟩:=own_typed hown b e.symm
      rw [hbk] at hc
      cases hc
     go_roundg (ss.length - (kk + 1))
     case measure=>omega
     case rel =>
      refine ⟨kk + 1,acc ++ [⟨x,lw⟩],by omega,by omega,by go_num,by rw [List.length_append];simp;omega,⟨?_⟩,HO3,⟨hmv⟩,⟨?_⟩,⟨?_⟩,HB3⟩
      ·rw [HTS.out,if_neg HXM.out]
       congr 2
       unfold traceOf
       rw [HLW.out]
       rfl
      ·exact HW.out.move fun v l hR=>Kd.R_mono (Kd.R_grown (Kd.R_apartR hR HT.out (by decide)) HG3.out (fun k hk=>hk.2)) (fun _ _=>trivial)
      ·exact Kd.R_mono (Kd.R_grown (Kd.R_apartR HL.out HT.out (by decide)) HG3.out (fun k hk=>hk.2)) (fun _ _=>trivial)
   ·have hltz:¬ (kk:Int) < (ss.length:Int):=by omega
    go_wp2_with fail
    go_ret2
    refine ⟨_,rfl,?_,HB.out⟩
    have h:=HA.out
    rw [List.take_of_length_le (by omega),HSS.out] at h
    unfold tracesL
    rw [← h]
    exact HT.out
 ·rw [if_neg he] at h
  injection h with h1 h2
  subst h1 h2
  have he1:(e != 0) = true:=bne_iff_ne.2 he
  have he2:(e == 0) = false:=beq_eq_false_iff_ne.2 he
  clear he
  go_enter Try.func18,Try.ntmps18
  go_wp2_with fail
  refine HC.out.mono ?_
  rintro e w1 ⟨v1,rfl,ho1,hb1⟩
  have HB:=Aside0.mk hb1
  clear ho1 hb1
  go_wp2_with fail
  go_ret2
  exact ⟨_,rfl,Kd.R_nil _ _ _ _ _,HB.out⟩
theorem zero4 (w:World):(zeroValue 4).run Try.prog w = .ok (.bool false) w:=by kernel_rfl
def bF (S:Int→Bool):Int→Option Value:=fun k=>if S k = true then some (.bool true) else none
theorem bF_put (S:Int→Bool) (m:Int):(fun j=>if j = m then some (Value.bool true) else bF S j) = bF (fun j=>decide (j = m) || S j):=by
 funext j
 unfold bF
 by_cases e:j = m
 ·simp [e]
 ·simp [e]
theorem bF_get (S:Int→Bool) (k:Int):(bF S k).getD (.bool false) = .bool (S k):=by
 unfold bF
 cases S k<;>rfl
theorem bF_some {S:Int→Bool} {k:Int} {v:Value} (h:bF S k = some v):S k = true:=by
 unfold bF at h
 cases e:S k with
 | true=>rfl
 | false=>rw [e] at h;cases h
theorem bF_isSome (S:Int→Bool) (k:Int):(bF S k).isSome = S k:=by
 unfold bF
 cases S k<;>rfl
theorem bF_none:bF (fun _=>false) = fun _=>none:=rfl
theorem bF_take0 (l:List Int):(bF fun j=>decide (j ∈ l.take 0)) = fun _=>none:=by
 funext j;unfold bF;rw [List.take_zero,if_neg (by simp)]
theorem take_set {l:List Int} {k:Nat} {x:Int} (h:l[k]? = some x):(fun j=>decide (j = x) || decide (j ∈ l.take k)) = fun j=>decide (j ∈ l.take (k + 1)):=by
 funext j
 rw [take_snoc_of h,Bool.eq_iff_iff]
 simp [or_comm]
section
variable {ops : Array Oper} {rest : List Oper} {o : Oper} {a : Act} {Q : Exit → Act → World → Prop}
theorem MapV.get_bool {W:World} {b n:Nat} {S:Int→Bool} (h:MapV W b n (bF S)) (k:Int)
  (hg:o.guard = none) (m x:Operand) (hop:o.op = Op.lookup 43 m x false) (hm:a.eval m = .map (some b)) (hx:a.eval x = .int .i64 k) (hk:wfI k)
  (hK:wpList Try.prog ops Q rest (a.put o.dst (.bool (S k))) W):wpList Try.prog ops Q (o :: rest) a W:=by
 refine h.lookup 43 4 (.bool false) Try.underlying43 zero4 hg m x hop hm k hx hk ?_
 rw [bF_get]
 exact hK
end
def stepS (o:S48) (S:Int→Bool):Int→Bool:=fun m=>(S o.f1 && decide (m = o.f2)) || (S o.f2 && decide (m = o.f1))
theorem stepS_iff (o:S48) (S:Int→Bool) (m:Int):stepS o S m = true ↔ ∃ n,S n = true∧otherO o n = some m:=by
 unfold stepS otherO
 simp only [Bool.or_eq_true,Bool.and_eq_true,decide_eq_true_eq]
 constructor
 ·rintro (⟨h1,h2⟩|⟨h1,h2⟩)
  ·exact ⟨o.f1,h1,by rw [if_pos rfl,h2]⟩
  ·by_cases e:o.f2 = o.f1
   ·exact ⟨o.f1,by rw [← e];exact h1,by rw [if_pos rfl,e,h2]⟩
   ·exact ⟨o.f2,h1,by rw [if_neg e,if_pos rfl,h2]⟩
 ·rintro ⟨n,h1,h2⟩
  by_cases e1:n = o.f1
  ·rw [if_pos e1] at h2
   injection h2 with h2
   exact .inl ⟨by rw [← e1];exact h1,h2.symm⟩
  ·rw [if_neg e1] at h2
   by_cases e2:n = o.f2
   ·rw [if_pos e2] at h2
    injection h2 with h2
    exact .inr ⟨by rw [← e2];exact h1,h2.symm⟩
   ·rw [if_neg e2] at h2;cases h2
def leadsS (op:List S48):List Int→(Int→Bool)→Option (Int→Bool)
 | [],S=>some S
 | id :: r,S=>if fidx (fun o:S48=>o.f0 == id) op 0 < 0 then none else leadsS op r (stepS (rd_T48 op (fidx (fun o:S48=>o.f0 == id) op 0)) S)
def leadsB (op:List S48) (fr way:List Int) (tt:Int):Bool :=
 match leadsS op way (fun n=>decide (n ∈ fr)) with
 | none=>false
 | some S=>decide (0 < way.length) && S tt
theorem pred79 (id:Int) (B:Nat) (w:World) (hB:B < w.heap.size) (hcell:w.cell? ⟨B,0,none⟩ = some (.int .i64 id)) :
  PredW Try.prog 79 #[.pointer (some ⟨B,0,none⟩)] enc48 (fun x=>x.f0 == id) w:=fun W x hb=>by
 have hc:W.cell? ⟨B,0,none⟩ = some (.int .i64 id):=(hb.cell (p:=⟨B,0,none⟩) hB).trans hcell
 have hBW:B < W.heap.size:=Nat.lt_of_lt_of_le hB hb.size
 have hne:B≠W.heap.size:=by omega
 clear hcell
 show Calls Try.prog 79 #[.agg #[.int .i64 x.f0,.int .i64 x.f1,.int .i64 x.f2,.int .i64 x.f3,.string x.f4.f0,.string x.f4.f1,.string x.f4.f2],.pointer (some ⟨B,0,none⟩)] W _
 go_enter Try.func79,Try.ntmps79
 go_wp2
 all_goals (go_ret;exact ⟨rfl,(Below.refl _ _).alloc (Nat.le_refl _) _⟩)
set_option maxHeartbeats 8000000 in
set_option maxRecDepth 100000 in
theorem leads47 (A0:Option Addr) (c0:Nat) (op:List S48) (A1:Option Addr) (c1:Nat) (fr:List Int) (A2:Option Addr) (c2:Nat) (way:List Int) (tt:Int) (w:World)
  (hr0:Kd.C k48 w A0 op.length op) (hr1:Kd.C (Kd.int .i64) w A1 fr.length fr) (hr2:Kd.C (Kd.int .i64) w A2 way.length way) (hf:fr.length≤64) (hk:∀ k ∈ univ op fr,wfI k) (ht:wfI tt) :
  Calls Try.prog 47 #[.slice A0 op.length c0,.slice A1 fr.length c1,.slice A2 way.length c2,.int .i64 tt] w fun e w'=>e = .returned (.bool (leadsB op fr way tt))∧Below w.heap.size w w':=by
 have hu48:=Try.underlying48
 have hm0:=hr0.2.1
 have hm2:=hr2.2.1
 have HR0:=Aside0.mk hr0
 have HR1:=Aside0.mk hr1
 have HR2:=Aside0.mk hr2
 have HK:=Aside0.mk hk
 have HTO:=Aside0.mk ht
 have HX:=Aside0.mk (fun (id:Int) W (hW:Below w.heap.size w W) (B:Nat) (hB:B < W.heap.size) (hcell:W.cell? ⟨B,0,none⟩ = some (.int .i64 id)) =>
  idx77 (fun x=>x.f0 == id) 79 #[.pointer (some ⟨B,0,none⟩)] (enters_of Try.func79 (by kernel_rfl) rfl) A0 c0 op W (Kd.C_below hr0 hW) (pred79 id B W hB hcell))
 clear hr0 hr1 hr2 hk ht
 obtain ⟨R,hR⟩:∃ R,R = leadsS op way (fun n=>decide (n ∈ fr)):=⟨_,rfl⟩
 have HRR:=Aside0.mk hR
 clear hR
 have HB:=Aside0.mk (Below.refl w.heap.size w)
 go_enter Try.func47,Try.ntmps47
 go_wp2_with ((with_reducible refine gate_dst (N:=19) rfl ?_);refine makeMap_event 43 rfl rfl ?_;intro bh hbh w1 hM1 hB1;have hbw:w.heap.size≤bh:=(by omega);clear hbh)
 have HM:=Aside0.mk hM1
 replace HB:=Aside0.mk hB1
 clear hM1 hB1
 go_loopg [11,22] fr.length (fun gg s11 s22 wr=>∃ (kk:Nat),kk≤fr.length∧fr.length - kk≤gg∧s22 = .int .i64 kk∧Aside0 (MapV wr bh kk (bF fun j=>decide (j ∈ fr.take kk)))∧Aside0 (Below w.heap.size w wr))
 case atStart=>exact ⟨0,Nat.zero_le _,by omega,rfl,⟨by rw [bF_take0];exact HM.out⟩,HB⟩
 case round =>
  clear HM HB
  obtain ⟨kk,hkk,hg,rfl,HM,HB⟩:=hrel
  by_cases hlt:kk < fr.length
  ·have hltz:(kk:Int) < (fr.length:Int):=by omega
   obtain ⟨ad,e,h0⟩:=int_at (Kd.C_below HR1.out HB.out) kk hltz
   cases e
   have HG:=Aside0.mk (rd_get fr kk hlt)
   generalize rdOf 0 fr (kk:Int) = x at h0 HG
   have HXW:=Aside0.mk (HK.out x (univ_from (List.mem_of_getElem? HG.out)))
   go_wp2_with (at_mapUpdate;refine MapV.update HM.out 43 4 Try.underlying43 rfl _ _ _ rfl rfl (by omega) x (.bool true) rfl rfl HXW.out ?_;intro w6 hM6 hG6)
   go_roundg (fr.length - (kk + 1))
   case measure=>omega
   case rel =>
    refine ⟨kk + 1,by omega,by omega,by go_num,⟨?_⟩,⟨pw_below_grown HB.out _ HB.out.size hG6 (fun k hk=>by injection hk with hk;omega)⟩⟩
    have h:=hM6
    rw [bF_put,take_set HG.out] at h
    exact h
  ·have hltz:¬ (kk:Int) < (fr.length:Int):=by omega
   replace HM:=Aside0.mk (show MapV wr bh 64 (bF fun j=>decide (j ∈ fr)) by have h:=HM.out.up (show kk≤64 by omega);rwa [List.take_of_length_le (by omega)] at h)
   go_wp2_with fail
   go_loopg [9,13,14,15,16,17,18,31] way.length (fun gg s9 s13 s14 s15 s16 s17 s18 s31 wr=>∃ (kk b:Nat) (S:Int→Bool),kk≤way.length∧way.length - kk≤gg∧s31 = .int .i64 kk∧s9 = .map (some b)∧w.heap.size≤b∧Aside0 (leadsS op (way.drop kk) S = R)∧Aside0 (MapV wr b 64 (bF S))∧Aside0 (Below w.heap.size w wr))
   case atStart=>exact ⟨0,bh,_,Nat.zero_le _,by omega,rfl,rfl,hbw,⟨HRR.out.symm⟩,HM,HB⟩
   case round =>
    clear HM HB
    obtain ⟨kk,b,S,hkk,hg,rfl,rfl,hbw2,HS,HM,HB⟩:=hrel
    by_cases hlt:kk < way.length
    ·have hltz:(kk:Int) < (way.length:Int):=by omega
     obtain ⟨ad,e,h0⟩:=int_at (Kd.C_below HR2.out HB.out) kk hltz
     cases e
     have HG:=Aside0.mk (rd_get way kk hlt)
     generalize rdOf 0 way (kk:Int) = id at h0 HG
     have hx:=HX.out id (wr.alloc (.cells #[.int .i64 id] 3)) (below_alloc HB.out _) wr.heap.size (by simp) (by simp)
     have hstep:leadsS op (way.drop kk) S = if fidx (fun o:S48=>o.f0 == id) op 0 < 0 then none else leadsS op (way.drop (kk + 1)) (stepS (rd_T48 op (fidx (fun o:S48=>o.f0 == id) op 0)) S):=by
      have e1:way.drop kk = id :: way.drop (kk + 1):=by
       rw [List.drop_eq_getElem_cons hlt]
       congr 1
       have:=HG.out
       rw [List.getElem?_eq_getElem hlt] at this
       exact Option.some.inj this
      rw [e1];rfl
     have HHi:=Aside0.mk (fidx_lt (fun x:S48=>x.f0 == id) op 0)
     rw [hstep] at HS
     clear hstep
     generalize fidx (fun x:S48=>x.f0 == id) op 0 = q at hx HHi HS
     go_wp2_with fail
     refine hx.mono ?_
     rintro e w4 ⟨rfl,hb4⟩
     have hb5:Below wr.heap.size wr w4:=(below_alloc (Below.refl wr.heap.size wr) (.cells #[.int .i64 id] 3)).trans (hb4.mono (by simp))
     replace HM:=Aside0.mk (HM.out.below hb5)
     replace HB:=Aside0.mk (below_then HB.out HB.out.size hb5)
     clear hb4 hb5 hx h0
     by_cases hq:q < 0
     ·have hqd:=decide_eq_true hq
      have HQ:=Aside0.mk hq
      go_wp2_with fail
      go_ret
      refine ⟨?_,HB.out⟩
      have h:=HS.out
      rw [if_pos HQ.out,HRR.out] at h
      unfold leadsB
      rw [← h]
      rfl
     ·have hqd:=decide_eq_false hq
      have hq0:0≤q:=by omega
      have hq1:q < (op.length:Int):=by have:=HHi.out;omega
      have HS2:=Aside0.mk (show leadsS op (way.drop (kk + 1)) (stepS (rd_T48 op q) S) = R by have h:=HS.out;rwa [if_neg hq] at h)
      have HOM:=Aside0.mk (rd48_mem hq0 hq1)
      obtain ⟨ad2,e,g0,g1,g2,g3,g4,g5,g6⟩:=at_T48 (Kd.C_below HR0.out HB.out) q hq0 hq1
      cases e
      generalize rd_T48 op q = x at g0 g1 g2 g3 g4 g5 g6 HS2 HOM
      have HQ0:=Aside0.mk hq0
      have HQ1:=Aside0.mk hq1
      have HGC:=Aside0.mk (show ∀ W',Below w4.heap.size w4 W'→W'.cell? (ad2.add (q.toNat * 7)) = some (.int .i64 x.f0)∧W'.cell? ⟨(ad2.add (q.toNat * 7)).block,(ad2.add (q.toNat * 7)).off + 1,none⟩ = some (.int .i64 x.f1)∧W'.cell? ⟨(ad2.add (q.toNat * 7)).block,(ad2.add (q.toNat * 7)).off + 2,none⟩ = some (.int .i64 x.f2)∧W'.cell? ⟨(ad2.add (q.toNat * 7)).block,(ad2.add (q.toNat * 7)).off + 3,none⟩ = some (.int .i64 x.f3)∧W'.cell? ⟨(ad2.add (q.toNat * 7)).block,(ad2.add (q.toNat * 7)).off + 4,none⟩ = some (.string x.f4.f0)∧W'.cell? ⟨(ad2.add (q.toNat * 7)).block,(ad2.add (q.toNat * 7)).off + 5,none⟩ = some (.string x.f4.f1)∧W'.cell? ⟨(ad2.add (q.toNat * 7)).block,(ad2.add (q.toNat * 7)).off + 6,none⟩ = some (.string x.f4.f2) from
       fun W' hW=>⟨pw_cell_below hW g0,pw_cell_below hW g1,pw_cell_below hW g2,pw_cell_below hW g3,pw_cell_below hW g4,pw_cell_below hW g5,pw_cell_below hW g6⟩)
      have HB4:=Aside0.mk (Below.refl w4.heap.size w4)
      clear g0 g1 g2 g3 g4 g5 g6 HS hq0 hq1 hq
      go_wp2_with (first
       | ((with_reducible refine gate_dst (N:=40) rfl ?_);refine makeMap_event 43 rfl rfl ?_;intro bx hbx w5 hM5 hB5;have hne:b≠bx:=(by have:=HM.out.lt;omega);have hbxw:w.heap.size≤bx:=(by have:=HB.out.size;omega);have hbx4:w4.heap.size≤bx:=(by omega);have HN:=Aside0.mk hM5;have HM5:=Aside0.mk (HM.out.below hB5);have HB5:=Aside0.mk (below_then HB.out HB.out.size hB5);have HB45:=Aside0.mk hB5;clear hbx hM5 hB5)
       | (at_range;refine MapV.range HM5.out 43 4 Try.underlying43 rfl _ rfl rfl ?_;intro w6 left0 cnt0 hr0 hl0 hb0 hs0))
      go_frame
      have HR:=Aside0.mk hr0
      have HLF:=Aside0.mk hl0
      have hcn:=hr0.cnt_le
      have HN6:=Aside0.mk (HN.out.below hb0)
      have HB46:=Aside0.mk (below_then HB45.out HB45.out.size hb0)
      have HB6:=Aside0.mk (below_then HB5.out HB5.out.size hb0)
      have hbxl:=HN.out.lt
      obtain ⟨rr,hrr⟩:∃ rr,rr = w5.heap.size:=⟨_,rfl⟩
      rw [← hrr] at HR ⊢
      have hrx:bx≠rr:=by omega
      have hrw:w4.heap.size≤rr:=by omega
      have hw4:w.heap.size≤w4.heap.size:=HB.out.size
      clear hr0 hl0 hb0 hs0 hrr HM5 HN HB45 HB5 hbxl HM
      go_loopg [16,17,18] cnt0 (fun gg s16 s17 s18 wr=>∃ (left:Int→Prop) (cnt nx:Nat) (N:Int→Bool),cnt≤gg∧nx + cnt≤64∧Aside0 (MapR wr b rr 64 (bF S) left cnt)∧Aside0 (MapV wr bx nx (bF N))∧Aside0 (∀ m,N m = true ↔ ∃ n,S n = true∧¬ left n∧otherO x n = some m)∧Aside0 (Below w4.heap.size w4 wr)∧Aside0 (Below w.heap.size w wr))
      case atStart =>
       refine ⟨left0,cnt0,0,fun _=>false,Nat.le_refl _,by omega,HR,⟨by rw [bF_none];exact HN6.out⟩,⟨fun m=>⟨fun h=>by (first|cases h|exact absurd h (by decide)),fun h=>?_⟩⟩,HB46,HB6⟩
       obtain ⟨n,h1,h2,_⟩:=h
       exact absurd ((HLF.out n).2 (by rw [bF_isSome];exact h1)) h2
      case round =>
       clear HR HN6 HLF HB46 HB6 HB
       obtain ⟨left,cnt,nx,N,hcg,hnx,HR,HN,HI,HB4,HB⟩:=hrel
       go_wp2_with (at_next;refine MapR.next HR.out rfl _ rfl rfl ?_ ?_)
       ·intro hdone
        have HD:=Aside0.mk hdone
        go_wp2_with fail
        go_roundg (way.length - (kk + 1))
        case measure=>omega
        case rel =>
         have e:N = stepS x S:=by
          funext m
          rw [Bool.eq_iff_iff,HI.out m,stepS_iff]
          exact ⟨fun ⟨n,h1,_,h2⟩=>⟨n,h1,h2⟩,fun ⟨n,h1,h2⟩=>⟨n,h1,HD.out n,h2⟩⟩
         exact ⟨kk + 1,bx,stepS x S,by omega,by omega,by go_num,rfl,hbxw,HS2,⟨by rw [← e];exact HN.out.up (by omega)⟩,HB⟩
       ·intro y v w7 cnt7 left7 hwy hly hfy hr7 hl7 hlt7 hg7 hs7 hen
        have HN7:=Aside0.mk (HN.out.grown hg7 (by simpa using hrx))
        have HR7:=Aside0.mk hr7
        have HL7:=Aside0.mk hl7
        have HB47:=Aside0.mk (pw_below_grown HB4.out _ HB4.out.size hg7 (fun k hk=>by injection hk with hk;omega))
        have HB7:=Aside0.mk (pw_below_grown HB.out _ HB.out.size hg7 (fun k hk=>by injection hk with hk;omega))
        have HSY:=Aside0.mk (bF_some hfy)
        have HLY:=Aside0.mk hly
        obtain ⟨g0,g1,g2,g3,g4,g5,g6⟩:=HGC.out w7 HB47.out
        have p0:=eq_true HQ0.out
        have p1:=eq_true HQ1.out
        clear HR HN HB4 HB hr7 hl7 hg7 hs7 hfy hly
        cases hot:otherO x y with
        | none =>
         have HOT:=Aside0.mk hot
         have hc:=other_none hot w7
         clear hot
         go_wp2_with fail
         refine hc.mono ?_
         rintro e w8 ⟨rfl,hb8⟩
         go_wp2_with fail
         go_roundg cnt7
         case measure=>omega
         case rel =>
          refine ⟨left7,cnt7,nx,N,Nat.le_refl _,by omega,⟨HR7.out.below hb8⟩,⟨HN7.out.below hb8⟩,⟨fun m=>?_⟩,⟨below_then HB47.out HB47.out.size hb8⟩,⟨below_then HB7.out HB7.out.size hb8⟩⟩
          rw [HI.out m]
          constructor
          ·rintro ⟨n,h1,h2,h3⟩
           exact ⟨n,h1,fun h=>h2 ((HL7.out n).1 h).1,h3⟩
          ·rintro ⟨n,h1,h2,h3⟩
           refine ⟨n,h1,fun h=>?_,h3⟩
           by_cases e:n = y
           ·rw [e,HOT.out] at h3;cases h3
           ·exact h2 ((HL7.out n).2 ⟨h,e⟩)
        | some m =>
         have HOT:=Aside0.mk hot
         have hc:=other_some hot w7
         have HMW:=Aside0.mk (HK.out m (univ_ends (otherO_ends HOM.out hot)))
         clear hot
         go_wp2_with fail
         refine hc.mono ?_
         rintro e w8 ⟨rfl,hb8⟩
         have HN8:=Aside0.mk (HN7.out.below hb8)
         have HR8:=Aside0.mk (HR7.out.below hb8)
         have HB48:=Aside0.mk (below_then HB47.out HB47.out.size hb8)
         have HB8:=Aside0.mk (below_then HB7.out HB7.out.size hb8)
         clear hb8 hc HN7 HR7 HB47 HB7 g0 g1 g2 g3 g4 g5 g6
         go_wp2_with (at_mapUpdate;refine MapV.update HN8.out 43 4 Try.underlying43 rfl _ _ _ rfl rfl (by omega) m (.bool true) rfl rfl HMW.out ?_;intro w9 hM9 hG9)
         go_roundg cnt7
         case measure=>omega
         case rel =>
          refine ⟨left7,cnt7,nx + 1,fun j=>decide (j = m) || N j,Nat.le_refl _,by omega,⟨HR8.out.grown hG9 (by simpa using hne) (by simpa using (fun e=>hrx e.symm))⟩,⟨by rw [← bF_put];exact hM9⟩,⟨fun j=>?_⟩,⟨pw_below_grown HB48.out _ HB48.out.size hG9 (fun k hk=>by injection hk with hk;omega)⟩,⟨pw_below_grown HB8.out _ HB8.out.size hG9 (fun k hk=>by injection hk with hk;omega)⟩⟩
          rw [Bool.or_eq_true,decide_eq_true_eq,HI.out j]
          constructor
          ·rintro (h|⟨n,h1,h2,h3⟩)
           ·exact ⟨y,HSY.out,fun h4=>((HL7.out y).1 h4).2 rfl,by rw [h];exact HOT.out⟩
           ·exact ⟨n,h1,fun h=>h2 ((HL7.out n).1 h).1,h3⟩
          ·rintro ⟨n,h1,h2,h3⟩
           by_cases e:n = y
           ·rw [e,HOT.out] at h3;injection h3 with h3;exact .inl h3.symm
           ·exact .inr ⟨n,h1,fun h=>h2 ((HL7.out n).2 ⟨h,e⟩),h3⟩
    ·have hltz:¬ (kk:Int) < (way.length:Int):=by omega
     have h:=HS.out
     rw [List.drop_of_length_le (by omega),HRR.out] at h
     have HFIN:=Aside0.mk h
     clear h
     by_cases h0:0 < way.length
     ·have h0z:(0:Int) < (way.length:Int):=by omega
      have h0d:=decide_eq_true h0
      go_wp2_with (at_lookup;(try (refine gate_guard (by rfl) ?_;dsimp only));refine MapV.get_bool HM.out tt rfl _ _ rfl rfl rfl HTO.out ?_)
      go_ret
      refine ⟨?_,HB.out⟩
      unfold leadsB
      rw [← HFIN.out]
      show _ = Ending.returned (.bool (decide (0 < way.length) && S tt))
      rw [decide_eq_true h0,Bool.true_and]
      rfl
     ·have h0z:¬ (0:Int) < (way.length:Int):=by omega
      have h0d:=decide_eq_false h0
      go_wp2_with fail
      go_ret
      refine ⟨?_,HB.out⟩
      unfold leadsB
      rw [← HFIN.out]
      show _ = Ending.returned (.bool (decide (0 < way.length) && S tt))
      rw [decide_eq_false h0]
      rfl
section
variable {ops : Array Oper} {o : Oper} {a : Act} {Q : Exit → Act → World → Prop} {Kc : Act → World → Prop}
theorem MapV.update_step {W:World} {b n:Nat} {f:Int→Option Value} (h:MapV W b n f) (t e:TypeId) (ht:Try.prog.underlying t = some (.map 3 e))
  (hw:Region.wanted o (yielded ops a.tmps) = true) (m x y:Operand) (hop:o.op = Op.mapUpdate t m x y) (hm:a.eval m = .map (some b)) (hn:n < 9223372036854775807) (k:Int) (v:Value) (hx:a.eval x = .int .i64 k) (hv:a.eval y = v) (hk:wfI k)
  (hK:∀ w',MapV w' b (n + 1) (fun j=>if j = k then some v else f j)→W.grownBy w' (some b)→Kc (a.put o.dst undef) w') :
  if Region.wanted o (yielded ops a.tmps) = true then Oper.wp Try.prog o a W Kc Q else Kc (a.put o.dst undef) W:=by
 rw [if_pos hw]
 obtain ⟨D,hown,hD⟩:=h
 obtain ⟨w',hrun,r1,r2⟩:=hown.update key3 ht (by unfold maxLen;omega) (Maps.keyOf_int_mk Try.underlying3 hk) (val:=v) (d:=.held v) (ps:=[]) rfl
 unfold Oper.wp
 simp [execOp,hop,hm,hx,hv,hrun,Result.andThen]
 exact hK w' ⟨_,r1,hD.put hown.isMap k v hk⟩ r2
end
def PredR (g:Nat) (lb:Array Value) (p:List Int→Bool) (w:World):Prop :=
 ∀ (W:World) (A:Option Addr) (c:Nat) (l:List Int),Below w.heap.size w W→Kd.C (Kd.int .i64) W A l.length l→l.length≤c→Calls Try.prog g (#[.slice A l.length c] ++ lb) W fun e w'=>e = .returned (.bool (p l))∧Below W.heap.size W w'
theorem rdL5_get (xs:List (List Int)) (k:Nat) (h:k < xs.length):xs[k]? = some (rd_L5 xs k):=by
 unfold rd_L5
 rw [List.getD_eq_getElem?_getD,Int.toNat_natCast,List.getElem?_eq_getElem h]
 rfl
set_option maxHeartbeats 1000000 in
theorem idx91 (p:List Int→Bool) (g:Nat) (lb:Array Value) (eg:∀ args w,(callFunc g args).run Try.prog w = .ok (.enter g args) w) (A:Option Addr) (c:Nat) (xs:List (List Int)) (w:World)
  (hr:Kd.C (Kd.slice 3 (Kd.int .i64)) w A xs.length xs) (hp:PredR g lb p w) :
  Calls Try.prog 91 #[.slice A xs.length c,.func (.func g) #[] lb] w fun e w'=>e = .returned (.int .i64 (fidx p xs 0))∧Below w.heap.size w w':=by
 have hmax:=hr.2.1
 have HR:=Aside0.mk hr
 have HP:=Aside0.mk hp
 clear hr hp
 go_enter Try.func91,Try.ntmps91
 go_wp2
 go_loopg [5,8] xs.length (fun gg _ s8 wr=>∃ kk:Nat,kk≤xs.length∧xs.length - kk≤gg∧s8 = .int .i64 kk∧Aside0 (Below w.heap.size w wr)∧Aside0 (∀ j z,j < kk→xs[j]? = some z→p z = false))
 case atStart=>exact ⟨0,Nat.zero_le _,by omega,rfl,⟨Below.refl _ w⟩,⟨fun j z hj=>absurd hj (Nat.not_lt_zero _)⟩⟩
 case round =>
  obtain ⟨kk,hkk,hg,rfl,BW,AF⟩:=hrel
  by_cases hlt:kk < xs.length
  ·have hltz:(kk:Int) < (xs.length:Int):=by omega
   obtain ⟨ad,A0,k0,e,h0,hl,hC⟩:=at_L5 (Kd.C_below HR.out BW.out) kk (by omega) hltz
   cases e
   simp only [Int.toNat_natCast] at h0
   have hcall:=HP.out wr A0 k0 (rd_L5 xs kk) BW.out hC hl
   have hget:=rdL5_get xs kk hlt
   have HG:=Aside0.mk hget
   clear hget hC hl
   generalize rd_L5 xs (kk:Int) = y at h0 hcall HG
   cases hq:p y with
   | true =>
    have HQ:=Aside0.mk hq
    rw [hq] at hcall
    clear hq
    go_wp2_with fail
    refine hcall.mono ?_
    clear hcall
    rintro e w' ⟨rfl,hb'⟩
    have HB:=Aside0.mk (below_then BW.out BW.out.size hb')
    clear hb'
    go_wp2_with fail
    go_ret
    refine ⟨?_,HB.out⟩
    rw [fidx_hit p xs 0 kk _ HG.out HQ.out AF.out,Nat.zero_add]
    rfl
   | false =>
    have HQ:=Aside0.mk hq
    rw [hq] at hcall
    clear hq
    go_wp2_with fail
    refine hcall.mono ?_
    clear hcall
    rintro e w' ⟨rfl,hb'⟩
    have HB:=Aside0.mk (below_then BW.out BW.out.size hb')
    clear hb'
    go_wp2_with fail
    go_roundg (xs.length - (kk + 1))
    case measure=>omega
    case rel =>
     refine ⟨kk + 1,by omega,by omega,by go_num,HB,⟨fun j z hj hz=>?_⟩⟩
     by_cases e:j = kk
     ·subst e
      rw [HG.out] at hz
      injection hz with hz
      rw [← hz]
      exact HQ.out
     ·exact AF.out j z (by omega) hz
  ·have hltz:¬ (kk:Int) < (xs.length:Int):=by omega
   go_wp2
   go_ret
   refine ⟨?_,BW.out⟩
   have hf:fidx p xs 0 = -1:=fidx_miss p xs 0 (fun x hx=>by
    obtain ⟨j,hj⟩:=List.getElem?_of_mem hx
    have hjl:=(List.getElem?_eq_some_iff.1 hj).1
    exact AF.out j x (by omega) hj)
   rw [hf]
   rfl
theorem contains58 (p:List Int→Bool) (g:Nat) (lb:Array Value) (eg:∀ args w,(callFunc g args).run Try.prog w = .ok (.enter g args) w) (A:Option Addr) (c:Nat) (xs:List (List Int)) (w:World)
  (hr:Kd.C (Kd.slice 3 (Kd.int .i64)) w A xs.length xs) (hp:PredR g lb p w) {b:Bool} (hb:xs.any p = b) :
  Calls Try.prog 58 #[.slice A xs.length c,.func (.func g) #[] lb] w fun e w'=>e = .returned (.bool b)∧Below w.heap.size w w':=by
 have hcon:=idx91 p g lb eg A c xs w hr hp
 rw [← hb,fidx_any p xs 0]
 generalize fidx p xs 0 = q at hcon ⊢
 clear eg hr hp hb
 go_enter Try.func58,Try.ntmps58
 go_wp2_with fail
 refine hcon.mono ?_
 clear hcon
 rintro e w' ⟨rfl,hb'⟩
 go_wp2_with fail
 go_ret
 exact ⟨rfl,hb'⟩
theorem pred59 (n:Int) (B:Nat) (w:World) (hB:B < w.heap.size) (hcell:w.cell? ⟨B,0,none⟩ = some (.int .i64 n)) :
  PredR 59 #[.pointer (some ⟨B,0,none⟩)] (fun l=>decide (n ∈ l)) w:=fun W A c l hb hC hl=>by
 have hc:W.cell? ⟨B,0,none⟩ = some (.int .i64 n):=(hb.cell (p:=⟨B,0,none⟩) hB).trans hcell
 have HC:=Aside0.mk hC
 have HL:=Aside0.mk hl
 clear hcell hC hl hB hb
 show Calls Try.prog 59 #[.slice A l.length c,.pointer (some ⟨B,0,none⟩)] W _
 go_enter Try.func59,Try.ntmps59
 go_wp2_with fail
 refine (cont37 A c l n W HC.out HL.out).mono ?_
 rintro e w' ⟨rfl,nd,rfl⟩
 go_wp2_with fail
 go_ret
 exact ⟨rfl,pw_below_drewN (Below.refl _ _) _⟩
def partStep (o:List S48) (out:List (List Int)) (n:Int):List (List Int):=if out.any (fun l=>decide (n ∈ l)) = true then out else out ++ [reachL o [n]]
def partsL (l0 o:List S48):List (List Int):=(isort (ends l0)).foldl (partStep o) []
def connection_Parts.f (l0:List S48) (l1:List Int):Option (List (List Int) × Int):=(connection_chosen.f l0 l1 []).bind fun t=>some (if t.2 = 0 then (partsL l0 t.1,0) else ([],t.2))
theorem ends_snoc (a:List S48) (x:S48) (j:Int):j ∈ ends (a ++ [x]) ↔ j = x.f2 ∨ j = x.f1 ∨ j ∈ ends a:=by
 unfold ends
 simp only [List.map_append,List.map_cons,List.map_nil,List.mem_append,List.mem_singleton]
 constructor
 ·rintro ((h|h)|(h|h))<;>simp [h]
 ·rintro (h|h|h|h)<;>simp [h]
theorem set_ends {l:List S48} {k:Nat} {x:S48} (h:l[k]? = some x):(fun j=>decide (j = x.f2) || (decide (j = x.f1) || decide (j ∈ ends (l.take k)))) = fun j=>decide (j ∈ ends (l.take (k + 1))):=by
 funext j
 rw [take_snoc_of h,Bool.eq_iff_iff]
 simp only [Bool.or_eq_true,decide_eq_true_eq,ends_snoc]
set_option maxHeartbeats 8000000 in
set_option maxRecDepth 100000 in
theorem connection_Parts.calls (A0:Option Addr) (c0:Nat) (l0:List S48) (A1:Option Addr) (c1:Nat) (l1:List Int) (r1:List (List Int)) (r2:Int) (w:World)
  (hr0:Kd.C k48 w A0 l0.length l0) (hc0:l0.length≤c0) (hr1:Kd.C (Kd.int .i64) w A1 l1.length l1) (hc1:l1.length≤c1) (h:connection_Parts.f l0 l1 = some (r1,r2)) :
  Calls Try.prog 22 #[.slice A0 l0.length c0,.slice A1 l1.length c1] w fun e w'=>∃ v0_:Value,e = .returned (.tuple #[v0_,.int .i64 r2])∧Kd.R (Kd.slice 3 (Kd.int .i64)) 23 w' w.heap.size (fun _=>True) v0_ r1∧Below w.heap.size w w':=by
 have hu48:=Try.underlying48
 unfold connection_Parts.f at h
 obtain ⟨⟨o,e⟩,ho,h⟩:=Option.bind_eq_some_iff.1 h
 have HC:=Aside0.mk (connection_chosen.calls A0 c0 l0 A1 c1 l1 none 0 [] o e w hr0 hc0 hr1 hc1 ⟨rfl,by simp,fun h=>absurd h (by simp)⟩ (by simp) ho)
 have HR0:=Aside0.mk hr0
 have hm0:=hr0.2.1
 have HO:=Aside0.mk ho
 replace h:=Option.some.inj h
 clear hr0 hc0 hr1 hc1 ho
 by_cases he:e = 0
 case neg =>
  rw [if_neg he] at h
  injection h with h1 h2
  subst h1 h2
  have he1:(e != 0) = true:=bne_iff_ne.2 he
  have he2:(e == 0) = false:=beq_eq_false_iff_ne.2 he
  clear he
  go_enter Try.func22,Try.ntmps22
  go_wp2_with fail
  refine HC.out.mono ?_
  rintro e w1 ⟨v1,rfl,ho1,hb1⟩
  have HB:=Aside0.mk hb1
  clear ho1 hb1
  go_wp2_with fail
  go_ret2
  exact ⟨_,rfl,Kd.R_nil _ _ _ _ _,HB.out⟩
 subst he
 rw [if_pos rfl] at h
 injection h with h1 h2
 subst h1 h2
 have hol:=(ways_ok HO.out).1
 have HRT:=Aside0.mk (chosen_inv HO.out).1
 have HSB:=Aside0.mk (pickO_sub (chosen_inv HO.out).2.2.2)
 have hl64:l0.length≤64:=by
  have h:=HRT.out
  unfold rightB at h
  simp only [Bool.and_eq_true,decide_eq_true_eq] at h
  exact h.2
 go_enter Try.func22,Try.ntmps22
 go_wp2_with fail
 refine HC.out.mono ?_
 rintro e w1 ⟨v1,rfl,ho1,hb1⟩
 obtain ⟨A,c,ev,hlc,hC⟩:=Kd.R_reads ho1
 subst ev
 have HCo:=Aside0.mk hC
 have HLc:=Aside0.mk hlc
 have HB0:=Aside0.mk hb1
 have HB:=Aside0.mk (Below.refl w1.heap.size w1)
 clear ho1 hC hlc hb1
 have HR0':=Aside0.mk (Kd.C_below HR0.out HB0.out)
 clear HR0 HC
 go_wp2_with ((with_reducible refine gate_dst (N:=23) rfl ?_);refine makeMap_event 43 rfl rfl ?_;intro bh hbh w2 hM1 hB1;have hbw:w1.heap.size≤bh:=(by omega);clear hbh)
 have HM:=Aside0.mk hM1
 replace HB:=Aside0.mk hB1
 clear hM1 hB1
 go_loopg [10,26] l0.length (fun gg s10 s26 wr=>∃ (kk:Nat),kk≤l0.length∧l0.length - kk≤gg∧s26 = .int .i64 kk∧Aside0 (MapV wr bh (2 * kk) (bF fun j=>decide (j ∈ ends (l0.take kk))))∧Aside0 (Below w1.heap.size w1 wr))
 case atStart =>
  refine ⟨0,Nat.zero_le _,by omega,rfl,⟨?_⟩,HB⟩
  have e:(bF fun j=>decide (j ∈ ends (l0.take 0))) = fun _=>none:=by funext j;unfold bF;rw [List.take_zero,if_neg (by simp [ends])]
  rw [e]
  exact HM.out
 case round =>
  clear HM HB
  obtain ⟨kk,hkk,hg,rfl,HM,HB⟩:=hrel
  by_cases hlt:kk < l0.length
  ·have hltz:(kk:Int) < (l0.length:Int):=by omega
   obtain ⟨ad,e,h0,h1,h2,h3,h4,h5,h6⟩:=at_T48 (Kd.C_below HR0'.out HB.out) kk (by omega) hltz
   cases e
   simp only [Int.toNat_natCast] at h0 h1 h2 h3 h4 h5 h6
   have HG:=Aside0.mk (rd48_get l0 kk hlt)
   generalize rd_T48 l0 (kk:Int) = x at h0 h1 h2 h3 h4 h5 h6 HG
   have HE:=Aside0.mk (ends_code HRT.out (fun x h=>h))
   have HX1:=Aside0.mk (show wfI x.f1 from by have:=HE.out x.f1 (List.mem_append.2 (.inl (List.mem_map.2 ⟨x,List.mem_of_getElem? HG.out,rfl⟩)));exact wfI_of (by omega) (by omega))
   have HX2:=Aside0.mk (show wfI x.f2 from by have:=HE.out x.f2 (List.mem_append.2 (.inr (List.mem_map.2 ⟨x,List.mem_of_getElem? HG.out,rfl⟩)));exact wfI_of (by omega) (by omega))
   go_wp2_with fail
   generalize hw6:wr.alloc (.cells #[.int .i64 x.f0,.int .i64 x.f1,.int .i64 x.f2,.int .i64 x.f3,.string x.f4.f0,.string x.f4.f1,.string x.f4.f2] 48) = w6
   have HBX:=Aside0.mk (show w6.heap[wr.heap.size]? = some (.cells #[.int .i64 x.f0,.int .i64 x.f1,.int .i64 x.f2,.int .i64 x.f3,.string x.f4.f0,.string x.f4.f1,.string x.f4.f2] 48 (0,0)) by rw [← hw6];exact blk_new _ _)
   have hBl:Below wr.heap.size wr w6:=by rw [← hw6];exact below_alloc (Below.refl _ _) _
   replace HM:=Aside0.mk (HM.out.below hBl)
   replace HB:=Aside0.mk (below_then HB.out HB.out.size hBl)
   obtain ⟨bx,hbx⟩:∃ bx,bx = wr.heap.size:=⟨_,rfl⟩
   rw [← hbx] at HBX ⊢
   have hne:bh≠bx:=by intro e;obtain ⟨es,ck,hq⟩:=HM.out.blk;rw [e,HBX.out] at hq;cases hq
   have HCE:=Aside0.mk (show ∀ W',Below w6.heap.size w6 W'→W'.cell? ⟨bx,1,none⟩ = some (.int .i64 x.f1)∧W'.cell? ⟨bx,2,none⟩ = some (.int .i64 x.f2) from fun W' hW=>⟨pw_cell_below hW (blk_cell HBX.out 1),pw_cell_below hW (blk_cell HBX.out 2)⟩)
   have HBS:=Aside0.mk (Below.refl w6.heap.size w6)
   clear hw6 hBl hbx h0 h1 h2 h3 h4 h5 h6
   refine start_ (n:=8) (S:=fun w'=>w'.cell? ⟨bx,1,none⟩ = some (.int .i64 x.f1)∧w'.cell? ⟨bx,2,none⟩ = some (.int .i64 x.f2)) (ds:=[]) #[false,false,false,false,false,false,false,false] (by kernel_rfl) rfl rfl (HCE.out _ bx_) (fun hHeld=>?_)
   refine pu_ 0 (some 30) #[true,false,false,false,false,false,false,false] ?_
   refine pu_ 1 (some 31) #[true,true,false,false,false,false,false,false] ?_
   refine tk_ 2 (some 32) #[true,true,true,false,false,false,false,false] hHeld ?_
   refine pu_ 3 (some 33) #[true,true,true,true,false,false,false,false] ?_
   refine pu_ 4 (some 34) #[true,true,true,true,true,false,false,false] ?_
   refine tk_ 5 (some 35) #[true,true,true,true,true,true,false,false] hHeld ?_
   refine one_ (i:=6) (N:=none) #[true,true,true,true,true,true,true,false] rfl rfl (by kernel_rfl) (by decide) (fun K hK=>?_)
   refine MapV.update_step (HM.out.below bx_) 43 4 Try.underlying43 rfl _ _ _ rfl rfl (by omega) x.f1 (.bool true) rfl rfl HX1.out ?_
   intro w7 hM7 hG7
   rw [bF_put] at hM7
   have HM7:=Aside0.mk hM7
   have HB7:=Aside0.mk (pw_below_grown (below_then HB.out HB.out.size (bx_:Below w6.heap.size w6 _)) _ (below_size (below_then HB.out HB.out.size (bx_:Below w6.heap.size w6 _))) hG7 (fun k hk=>by injection hk with hk;omega))
   have HX7:=Aside0.mk (blk_grown (blk_below HBX.out (bx_:Below w6.heap.size w6 _)) hG7 (by simpa using fun e=>hne e.symm))
   refine hk_ hK (fun hHeld=>?_) ⟨blk_cell HX7.out 1,blk_cell HX7.out 2⟩
   clear hK K
   refine one_ (i:=7) (N:=none) #[true,true,true,true,true,true,true,true] rfl rfl (by kernel_rfl) (by decide) (fun K hK=>?_)
   refine MapV.update_step HM7.out 43 4 Try.underlying43 rfl _ _ _ rfl rfl (by omega) x.f2 (.bool true) rfl rfl HX2.out ?_
   intro w8 hM8 hG8
   rw [bF_put] at hM8
   have HM8:=Aside0.mk hM8
   have HB8:=Aside0.mk (pw_below_grown HB7.out _ HB7.out.size hG8 (fun k hk=>by injection hk with hk;omega))
   have HX8:=Aside0.mk (blk_grown HX7.out hG8 (by simpa using fun e=>hne e.symm))
   refine hk_ hK (fun hHeld=>?_) ⟨blk_cell HX8.out 1,blk_cell HX8.out 2⟩
   clear hK K
   refine done_ (by kernel_rfl) ?_
   clear hHeld
   go_wp2_with fail
   go_roundg (l0.length - (kk + 1))
   case measure=>omega
   case rel =>
    refine ⟨kk + 1,by omega,by omega,by go_num,⟨?_⟩,HB8⟩
    have h:=HM8.out
    rw [set_ends HG.out] at h
    exact h.up (by omega)
  ·have hltz:¬ (kk:Int) < (l0.length:Int):=by omega
   replace HM:=Aside0.mk (show MapV wr bh 128 (bF fun j=>decide (j ∈ ends l0)) by
    have h:=HM.out.up (show 2 * kk≤128 by omega)
    rwa [List.take_of_length_le (by omega)] at h)
   go_wp2_with fail
   refine (keys57 _ _).mono ?_
   rintro e w6 ⟨rfl,rfl⟩
   go_wp2_with fail
   refine (sorted52B wr bh 128 _ HM.out (by omega)).mono ?_
   rintro e w7 ⟨v7,ss,rfl,hs1,hs2,hs3,hs4,hs5⟩
   have hss:ss = isort (ends l0):=inc_ext hs1 (isort_inc _) (fun k=>by rw [hs2 k,bF_isSome,decide_eq_true_eq,isort_mem])
   have hbl:Below wr.heap.size wr w7:=(below_alloc (Below.refl wr.heap.size wr) (.cells #[.map (some bh)] 43)).trans (hs5.mono (by simp))
   obtain ⟨A7,c7,rfl⟩:=Kd.R_slice hs4
   have hsl:ss.length≤128:=by omega
   have HL7:=Aside0.mk (Kd.R_lower hs4 (show w1.heap.size≤(wr.alloc (.cells #[.map (some bh)] 43)).heap.size from below_size (below_alloc HB.out _)))
   replace HB:=Aside0.mk (below_then HB.out HB.out.size hbl)
   have HSS:=Aside0.mk hss
   clear hs1 hs2 hs3 hs4 hs5 hss hbl HM
   have HT:=Aside0.mk (Kd.R_nil (Kd.slice 3 (Kd.int .i64)) 23 w7 w1.heap.size (fun _=>True))
   go_wp2_with fail
   go_loopg [11,13,41] ss.length (fun gg s11 s13 s41 wr=>∃ (kk:Nat) (acc:List (List Int)),kk≤ss.length∧ss.length - kk≤gg∧s41 = .int .i64 kk∧acc.length≤kk∧Aside0 ((ss.drop kk).foldl (partStep o) acc = partsL l0 o)
    ∧ Aside0 (Kd.R (Kd.slice 3 (Kd.int .i64)) 23 wr w1.heap.size (fun _=>True) s11 acc)∧Aside0 (RI wr w1.heap.size (.slice A7 ss.length c7) ss)∧Aside0 (Below w1.heap.size w1 wr))
   case atStart=>exact ⟨0,[],Nat.zero_le _,by omega,rfl,by simp,⟨by rw [HSS.out];rfl⟩,HT,HL7,HB⟩
   case round =>
    clear HT HL7 HB
    obtain ⟨kk,acc,hkk,hg,rfl,hal,HA,HT,HL,HB⟩:=hrel
    by_cases hlt:kk < ss.length
    ·have hltz:(kk:Int) < (ss.length:Int):=by omega
     obtain ⟨ad,e,h0⟩:=int_at (RI_C HL.out).2 kk hltz
     cases e
     have HG:=Aside0.mk (rd_get ss kk hlt)
     generalize rdOf 0 ss (kk:Int) = x at h0 HG
     have HA2:=Aside0.mk (show (ss.drop (kk + 1)).foldl (partStep o) (partStep o acc x) = partsL l0 o by rw [← HA.out,List.drop_eq_getElem_cons (show kk < ss.length from hlt)];rw [List.getElem?_eq_getElem hlt] at HG;rw [Option.some.inj HG.out];rfl)
     have HXW:=Aside0.mk (show wfI x from by
      have h1:x ∈ ends l0:=(isort_mem _ _).1 (by rw [← HSS.out];exact List.mem_of_getElem? HG.out)
      have:=ends_code HRT.out (fun x h=>h) x h1
      exact wfI_of (by omega) (by omega))
     have hx0:0≤x∧x≤9999:=ends_code HRT.out (fun x h=>h) x ((isort_mem _ _).1 (by rw [← HSS.out];exact List.mem_of_getElem? HG.out))
     have HX0:=Aside0.mk hx0
     obtain ⟨AO,cO,eO,hlO,hCO⟩:=Kd.R_reads HT.out
     cases hin:acc.any (fun l=>decide (x ∈ l)) with
     | true =>
      have hcon:=contains58 (fun l=>decide (x ∈ l)) 59 #[.pointer (some ⟨wr.heap.size,0,none⟩)] (enters_of Try.func59 (by kernel_rfl) rfl) AO cO acc (wr.alloc (.cells #[.int .i64 x] 3)) (Kd.C_below hCO (below_alloc (Below.refl _ _) _)) (pred59 x wr.heap.size _ (by simp) (by simp)) hin
      have HIN:=Aside0.mk hin
      subst eO
      clear hin hlO hCO hx0
      go_wp2_with fail
      refine hcon.mono ?_
      clear hcon
      rintro e w8 ⟨rfl,hb8⟩
      have hbl:Below wr.heap.size wr w8:=(below_alloc (Below.refl wr.heap.size wr) (.cells #[.int .i64 x] 3)).trans (hb8.mono (by simp))
      go_wp2_with fail
      go_roundg (ss.length - (kk + 1))
      case measure=>omega
      case rel=>exact ⟨kk + 1,acc,by omega,by omega,by go_num,by omega,⟨by have h:=HA2.out;unfold partStep at h;rw [if_pos HIN.out] at h;exact h⟩,⟨Kd.R_below HT.out hbl⟩,⟨Kd.R_below HL.out hbl⟩,⟨below_then HB.out HB.out.size hbl⟩⟩
     | false =>
      have hcon:=contains58 (fun l=>decide (x ∈ l)) 59 #[.pointer (some ⟨wr.heap.size,0,none⟩)] (enters_of Try.func59 (by kernel_rfl) rfl) AO cO acc (wr.alloc (.cells #[.int .i64 x] 3)) (Kd.C_below hCO (below_alloc (Below.refl _ _) _)) (pred59 x wr.heap.size _ (by simp) (by simp)) hin
      have HIN:=Aside0.mk hin
      obtain ⟨v11,hv11⟩:∃ v11,v11 = Value.slice AO acc.length cO:=⟨_,rfl⟩
      subst eO
      clear hin hlO hCO hx0
      go_wp2_with fail
      refine hcon.mono ?_
      clear hcon
      rintro e w8 ⟨rfl,hb8⟩
      have hbl:Below wr.heap.size wr w8:=(below_alloc (Below.refl wr.heap.size wr) (.cells #[.int .i64 x] 3)).trans (hb8.mono (by simp))
      have k0:w8.cell? ⟨wr.heap.size,0,none⟩ = some (.int .i64 x):=(hb8.cell (p:=⟨wr.heap.size,0,none⟩) (by simp)).trans (by simp)
      replace HT:=Aside0.mk (Kd.R_below HT.out hbl)
      replace HL:=Aside0.mk (Kd.R_below HL.out hbl)
      replace HB:=Aside0.mk (below_then HB.out HB.out.size hbl)
      clear hb8 hbl h0
      go_wp2_with fail
      refine (ways54 A c o (some ⟨w8.heap.size,0,none⟩) 1 [x] _ (cx_ (Kd.C_below HCo.out HB.out)) HLc.out (C_one (blk_new _ _)) (by simp) hol (by simp) (univ_code (ends_code HRT.out HSB.out) (fun k hk=>by have:=List.mem_singleton.1 hk;subst this;exact HX0.out))).mono ?_
      rintro e w9 ⟨b,n,f,rfl,hn,hM,hW,hb9⟩
      have hb89:Below w8.heap.size w8 w9:=(below_alloc (Below.refl w8.heap.size w8) (.cells #[.int .i64 x] 3)).trans (hb9.mono (by simp))
      have HM:=Aside0.mk hM
      have HS:=Aside0.mk (fun k=>hW.isSome k)
      replace HT:=Aside0.mk (Kd.R_below HT.out hb89)
      replace HL:=Aside0.mk (Kd.R_below HL.out hb89)
      replace HB:=Aside0.mk (below_then HB.out HB.out.size hb89)
      clear hM hW hb9 hb89 k0
      go_wp2_with fail
      refine (keys53 _ _).mono ?_
      rintro e w10 ⟨rfl,rfl⟩
      go_wp2_with fail
      refine (sorted52A w9 b n f HM.out (by omega)).mono ?_
      rintro e w11 ⟨v12,s2,rfl,hs1,hs2,hs3,hs4,hs5⟩
      have hss:s2 = reachL o [x]:=reach_eq hs1 hs2 HS.out
      subst hss
      have hb911:Below w9.heap.size w9 w11:=(below_alloc (Below.refl w9.heap.size w9) (.cells #[.map (some b)] 78)).trans (hs5.mono (by simp))
      replace HT:=Aside0.mk (Kd.R_below HT.out hb911)
      replace HL:=Aside0.mk (Kd.R_below HL.out hb911)
      have HV:=Aside0.mk (Kd.R_lower hs4 (show w1.heap.size≤(w9.alloc (.cells #[.map (some b)] 78)).heap.size from below_size (below_alloc HB.out _)))
      replace HB:=Aside0.mk (below_then HB.out HB.out.size hb911)
      clear hs1 hs2 hs3 hs4 hs5 hb911 HS
      obtain ⟨part,hpart⟩:∃ part,part = reachL o [x]:=⟨_,rfl⟩
      rw [← hpart] at HV
      have HPA:=Aside0.mk hpart
      clear hpart
      obtain ⟨A12,c12,rfl⟩:=Kd.R_slice HV.out
      have HVA:=Aside0.mk (Kd.R_mono (Kd.R_apartR HV.out HT.out (by decide)) (ok':=fun k=>some k≠(Value.slice AO acc.length cO).ownBlock) (fun k hk=>hk.2))
      go_wp2_with ((with_reducible refine gate_builtin (b:=.append) (xs:=#[.tmp 48,.tmp 55]) rfl ?_);at_builtin;refine Kd.R_append (Kd.slice 3 (Kd.int .i64)) (w0:=w1) w1.heap.size rfl (.tmp 48) (.tmp 55) 40 23 (.slice none 0 0) 24 rfl Try.underlying40 info23 rfl (by decide) (by decide) (.slice AO acc.length cO) acc part [.slice A12 part.length c12] (fun _=>True) (fun k=>some k≠(Value.slice AO acc.length cO).ownBlock) rfl rfl ?aP (fun k hk=>⟨trivial,hk⟩) (fun _ _=>trivial) ?aO ?aB ?aS ?aL ?_;(case aP=>exact ⟨_,rfl,rx_⟩);(case aB=>exact bx_);(case aO=>exact rx_);(case aS=>exact below_size bx_);(case aL=>omega);intro v3 w3 ho hb hg_ hat;have HO3:=Aside0.mk ho;have HB3:=Aside0.mk hb;have HG3:=Aside0.mk hg_;clear ho hb hg_ hat)
      go_roundg (ss.length - (kk + 1))
      case measure=>omega
      case rel =>
       refine ⟨kk + 1,acc ++ [part],by omega,by omega,by go_num,by rw [List.length_append];simp;omega,⟨by have h:=HA2.out;unfold partStep at h;rw [if_neg (by rw [HIN.out];decide),← HPA.out] at h;exact h⟩,HO3,⟨?_⟩,HB3⟩
       exact Kd.R_mono (Kd.R_grown (Kd.R_apartR HL.out HT.out (by decide)) HG3.out (fun k hk=>hk.2)) (fun _ _=>trivial)
    ·have hltz:¬ (kk:Int) < (ss.length:Int):=by omega
     go_wp2_with fail
     go_ret2
     refine ⟨_,rfl,?_,below_then HB0.out HB0.out.size HB.out⟩
     have h:=HA.out
     rw [List.drop_of_length_le (by omega)] at h
     rw [← h]
     exact Kd.R_lower HT.out HB0.out.size
end Go.Proofs.Ytbfmfflhdphohaa.Pr
