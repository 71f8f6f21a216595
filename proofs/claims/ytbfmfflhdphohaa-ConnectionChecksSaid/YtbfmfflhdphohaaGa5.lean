/- Part 5 of 5: walks and laws of functions that the last part joins. The words of the print (W..) are the kit's, cut down by program to what is used here. -/
import Derived.Test.YtbfmfflhdphohaaGa4
import Derived.Test.YtbfmfflhdphohaaRows
set_option linter.unusedVariables false
set_option linter.unusedSimpArgs false
namespace Go.Proofs.Ytbfmfflhdphohaa.Pr
open Go.RowKit Go.Proofs.YtbfmfflhdphohaaW.PrintWords Go.Proofs.YtbfmfflhdphohaaW.PrintLast Go.Proofs.YtbfmfflhdphohaaW.PrintMore
def Ev {α:Type} (f:Nat→Option α) (v:α):Prop:=∃ K,∀ k,K≤k→f k = some v
theorem Ev.suc {α:Type} {f:Nat→Option α} {v:α} (h:Ev (fun k=>f (k + 1)) v):Ev f v:=by
 obtain ⟨K,h⟩:=h
 refine ⟨K + 1,fun k hk=>?_⟩
 obtain ⟨m,rfl⟩:∃ m,k = m + 1:=⟨k - 1,by omega⟩
 exact h m (by omega)
theorem Ev.const {α:Type} (v:α):Ev (fun _=>some v) v:=⟨0,fun _ _=>rfl⟩
theorem Ev.bind {α β:Type} {f:Nat→Option α} {v:α} {g:Nat→α→Option β} {u:β} (h:Ev f v) (h2:Ev (fun k=>g k v) u):Ev (fun k=>(f k).bind (g k)) u:=by
 obtain ⟨K,h⟩:=h
 obtain ⟨K2,h2⟩:=h2
 exact ⟨max K K2,fun k hk=>by show (f k).bind (g k) = _;rw [h k (by omega),Option.bind_some];exact h2 k (by omega)⟩
theorem Ev.congr {α:Type} {f g:Nat→Option α} {v:α} (h:Ev g v) (e:∀ k,f k = g k):Ev f v:=by
 obtain ⟨K,h⟩:=h
 exact ⟨K,fun k hk=>(e k).trans (h k hk)⟩
theorem has_ev (l:List Int) (a:Int) (hl:l.length≤9223372036854775807):Ev (fun k=>garboardref32_Has.f k l a) (decide (a ∈ l)):=by
 have key:∀ d (i:Nat),l.length - i = d→i≤l.length→Ev (fun k=>garboardref32_Has.l0 k l a (i:Int)) (decide (a ∈ l.drop i)):=by
  intro d
  induction d with
  | zero =>
   intro i hd hi
   refine Ev.suc (Ev.congr (Ev.const _) fun k=>?_)
   simp only [garboardref32_Has.l0]
   rw [if_neg (by omega),List.drop_of_length_le (by omega)]
   rfl
  | succ d ih =>
   intro i hd hi
   have hlt:i < l.length:=by omega
   rw [List.drop_eq_getElem_cons hlt]
   by_cases hc:l[i] = a
   ·refine Ev.suc (Ev.congr (Ev.const _) fun k=>?_)
    simp only [garboardref32_Has.l0]
    rw [if_pos (by omega),if_pos (by omega),rd_nat l i hlt,if_pos hc]
    simp [hc]
   ·have h2:=ih (i + 1) (by omega) (by omega)
    rw [show (decide (a ∈ l[i] :: l.drop (i + 1))) = decide (a ∈ l.drop (i + 1)) from decide_eq_decide.2 ⟨fun h=>(List.mem_cons.1 h).resolve_left (fun e=>hc e.symm),List.mem_cons_of_mem _⟩]
    refine Ev.suc (Ev.congr h2 fun k=>?_)
    simp only [garboardref32_Has.l0]
    rw [if_pos (by omega),if_pos (by omega),rd_nat l i hlt,if_neg hc,wi1 hlt hl]
 have:=key _ 0 rfl (by omega)
 rw [List.drop_zero] at this
 exact this
theorem find_ev (l:List S48) (id:Int) (hl:l.length≤9223372036854775807):Ev (fun k=>garboardref32_find.f k l id) (fidx (fun o:S48=>o.f0 == id) l 0):=by
 have key:∀ d (i:Nat),l.length - i = d→i≤l.length→Ev (fun k=>garboardref32_find.l0 k l id (i:Int)) (fidx (fun o:S48=>o.f0 == id) (l.drop i) i):=by
  intro d
  induction d with
  | zero =>
   intro i hd hi
   refine Ev.suc (Ev.congr (Ev.const _) fun k=>?_)
   simp only [garboardref32_find.l0]
   rw [if_neg (by omega),List.drop_of_length_le (by omega)]
   rfl
  | succ d ih =>
   intro i hd hi
   have hlt:i < l.length:=by omega
   have hrd:rd_T48 l (i:Int) = l[i]:=Option.some.inj ((rd48_get l i hlt).symm.trans (List.getElem?_eq_getElem hlt))
   rw [List.drop_eq_getElem_cons hlt]
   unfold fidx
   by_cases hc:l[i].f0 = id
   ·rw [if_pos (beq_iff_eq.2 hc)]
    refine Ev.suc (Ev.congr (Ev.const _) fun k=>?_)
    simp only [garboardref32_find.l0]
    rw [if_pos (by omega),if_pos (by omega),hrd,if_pos hc]
   ·rw [if_neg (fun e=>hc (beq_iff_eq.1 e))]
    refine Ev.suc (Ev.congr (ih (i + 1) (by omega) (by omega)) fun k=>?_)
    simp only [garboardref32_find.l0]
    rw [if_pos (by omega),if_pos (by omega),hrd,if_neg hc,wi1 hlt hl]
 have:=key _ 0 rfl (by omega)
 rw [List.drop_zero] at this
 exact this
theorem rises_ev (l:List Int) (hl:l.length≤9223372036854775807):Ev (fun k=>garboardref32_Rises.f k l 0 9999) (incB l && l.all codeB):=by
 have key:∀ d (i:Nat),l.length - i = d→i≤l.length→incB (l.take i) = true→(l.take i).all codeB = true→Ev (fun k=>garboardref32_Rises.l0 k l 0 9999 (i:Int)) (incB l && l.all codeB):=by
  intro d
  induction d with
  | zero =>
   intro i hd hi hp hq
   rw [List.take_of_length_le (by omega)] at hp hq
   rw [hp,hq]
   refine Ev.suc (Ev.congr (Ev.const _) fun k=>?_)
   simp only [garboardref32_Rises.l0]
   rw [if_neg (by omega)]
   rfl
  | succ d ih =>
   intro i hd hi hp hq
   have hlt:i < l.length:=by omega
   have hr1:=rd_nat l i hlt
   have hst:=incB_take l i hlt hp
   have hbad:codeB l[i] = false→l.all codeB = false:=fun h=>List.all_eq_false.2 ⟨l[i],List.getElem_mem hlt,by rw [h];decide⟩
   by_cases h1:l[i] < 0
   ·rw [hbad (by unfold codeB;rw [decide_eq_false (by omega)];rfl),Bool.and_false]
    refine Ev.suc (Ev.congr (Ev.const _) fun k=>?_)
    simp only [garboardref32_Rises.l0]
    rw [if_pos (by omega),if_pos (by omega),hr1,if_pos h1]
   by_cases h2:l[i] > 9999
   ·rw [hbad (by unfold codeB;rw [decide_eq_false (show ¬ l[i]≤9999 by omega),Bool.and_false]),Bool.and_false]
    refine Ev.suc (Ev.congr (Ev.const _) fun k=>?_)
    simp only [garboardref32_Rises.l0]
    rw [if_pos (by omega),if_pos (by omega),hr1,if_neg h1,if_pos h2]
   have hq2:(l.take (i + 1)).all codeB = true:=by
    rw [take_snoc_of (List.getElem?_eq_getElem hlt),List.all_append,hq]
    simp [codeB]
    omega
   by_cases h0:0 < i
   ·have hr2:=rd_nat l (i - 1) (by omega)
    have hb:l[i - 1]! = l[i - 1]:=getElem!_pos l (i - 1) (by omega)
    by_cases hc:l[i]≤l[i - 1]
    ·rw [show incB l = false from incB_of_take (i + 1) (Bool.eq_false_iff.2 fun e=>by have:=hst.1 e h0;omega),Bool.false_and]
     refine Ev.suc (Ev.congr (Ev.const _) fun k=>?_)
     simp only [garboardref32_Rises.l0]
     rw [if_pos (by omega),if_pos (by omega),hr1,if_neg h1,if_neg h2,if_pos (by omega),wd1 h0 (by omega),if_pos (by omega),if_pos (by omega),hr2,if_pos hc]
    ·refine Ev.suc (Ev.congr (ih (i + 1) (by omega) (by omega) (hst.2 fun _=>by omega) hq2) fun k=>?_)
     simp only [garboardref32_Rises.l0]
     rw [if_pos (by omega),if_pos (by omega),hr1,if_neg h1,if_neg h2,if_pos (by omega),wd1 h0 (by omega),if_pos (by omega),if_pos (by omega),hr2,if_neg hc,wi1 hlt hl]
   ·refine Ev.suc (Ev.congr (ih (i + 1) (by omega) (by omega) (hst.2 fun h=>absurd h h0) hq2) fun k=>?_)
    simp only [garboardref32_Rises.l0]
    rw [if_pos (by omega),if_pos (by omega),hr1,if_neg h1,if_neg h2,if_neg (by omega),wi1 hlt hl]
 exact key _ 0 rfl (by omega) (by simp [incB]) (by simp)
theorem asks1_ev (l:List S48) (x:List Int) (hl:l.length≤1000000) (hx:x.length≤9223372036854775807):Ev (fun k=>garboardref32_asks.l1 k l x 0) (match pickO l x with|some _=>0|none=>7):=by
 have key:∀ d (i:Nat) (acc:List S48),x.length - i = d→i≤x.length→pickO l (x.take i) = some acc→Ev (fun k=>garboardref32_asks.l1 k l x (i:Int)) (match pickO l x with|some _=>0|none=>7):=by
  intro d
  induction d with
  | zero =>
   intro i acc hd hi hp
   rw [List.take_of_length_le (by omega)] at hp
   rw [hp]
   refine Ev.suc (Ev.congr (Ev.const _) fun k=>?_)
   simp only [garboardref32_asks.l1]
   rw [if_neg (by omega)]
  | succ d ih =>
   intro i acc hd hi hp
   have hlt:i < x.length:=by omega
   have hr1:=rd_nat x i hlt
   have hs:=take_snoc_of (List.getElem?_eq_getElem hlt)
   have hp2:=pickO_snoc l (x.take i) x[i]
   rw [hp,Option.bind_some,← hs] at hp2
   have hf:=find_ev l x[i] (by omega)
   by_cases hc:fidx (fun o:S48=>o.f0 == x[i]) l 0 < 0
   ·rw [if_pos hc] at hp2
    rw [pickO_no (i + 1) hp2]
    refine Ev.suc (Ev.congr (hf.bind (g:=fun k t=>if t < 0 then some 7 else garboardref32_asks.l1 k l x (wrap64 ((i:Int) + 1))) (Ev.congr (Ev.const _) fun k=>if_pos hc)) fun k=>?_)
    simp only [garboardref32_asks.l1]
    rw [if_pos (by omega),if_pos (by omega),hr1]
   ·rw [if_neg hc] at hp2
    refine Ev.suc (Ev.congr (hf.bind (g:=fun k t=>if t < 0 then some 7 else garboardref32_asks.l1 k l x (wrap64 ((i:Int) + 1))) (Ev.congr (ih (i + 1) _ (by omega) (by omega) hp2) fun k=>by show (if _ then _ else _) = _;rw [if_neg hc,wi1 hlt hx])) fun k=>?_)
    simp only [garboardref32_asks.l1]
    rw [if_pos (by omega),if_pos (by omega),hr1]
 exact key _ 0 [] rfl (by omega) (by rw [List.take_zero];rfl)
theorem asks0_ev (l:List S48) (x:List Int) (hl:l.length≤1000000) (hx:x.length≤9223372036854775807):Ev (fun k=>garboardref32_asks.l0 k l x 1) (if incB x = true then (match pickO l x with|some _=>0|none=>7) else 5):=by
 have key:∀ d (i:Nat),x.length - i = d→1≤i→incB (x.take i) = true→Ev (fun k=>garboardref32_asks.l0 k l x (i:Int)) (if incB x = true then (match pickO l x with|some _=>0|none=>7) else 5):=by
  intro d
  induction d with
  | zero =>
   intro i hd hi hp
   rw [List.take_of_length_le (by omega)] at hp
   rw [if_pos hp]
   refine Ev.suc (Ev.congr (asks1_ev l x hl hx) fun k=>?_)
   simp only [garboardref32_asks.l0]
   rw [if_neg (by omega)]
  | succ d ih =>
   intro i hd hi hp
   have hlt:i < x.length:=by omega
   have hr1:=rd_nat x i hlt
   have hr2:=rd_nat x (i - 1) (by omega)
   have hst:=incB_take x i hlt hp
   have hb:x[i - 1]! = x[i - 1]:=getElem!_pos x (i - 1) (by omega)
   by_cases hc:x[i]≤x[i - 1]
   ·rw [if_neg (show ¬ incB x = true from fun e=>by have:=incB_of_take (l:=x) (i + 1) (Bool.eq_false_iff.2 fun e=>by have:=hst.1 e (by omega);omega);rw [this] at e;cases e)]
    refine Ev.suc (Ev.congr (Ev.const _) fun k=>?_)
    simp only [garboardref32_asks.l0]
    rw [if_pos (by omega),if_pos (by omega),hr1,wd1 (by omega) (by omega),if_pos (by omega),if_pos (by omega),hr2,if_pos hc]
   ·refine Ev.suc (Ev.congr (ih (i + 1) (by omega) (by omega) (hst.2 fun _=>by omega)) fun k=>?_)
    simp only [garboardref32_asks.l0]
    rw [if_pos (by omega),if_pos (by omega),hr1,wd1 (by omega) (by omega),if_pos (by omega),if_pos (by omega),hr2,if_neg hc,wi1 hlt hx]
 exact key _ 1 rfl (by omega) (by cases x with|nil=>simp [incB]|cons a x=>simp [incB])
theorem asks_ev {l:List S48} {x y:List Int} {o:List S48} {e:Int} (h:connection_chosen.f l x y = some (o,e)) (hl:l.length≤1000000) (hx:x.length≤9223372036854775807) (hy:y.length≤9223372036854775807):Ev (fun k=>garboardref32_asks.f k l x y) e:=by
 unfold connection_chosen.f at h
 replace h:=Option.some.inj h
 have hr:garboardref32_right.f l = some (rightB l):=rfl
 cases hrb:rightB l with
 | false =>
  rw [hrb,Bool.false_and,if_neg (by decide)] at h
  injection h with _ h
  subst h
  refine Ev.congr (Ev.suc (f:=fun k=>garboardref32_asks.j0 k l x true) (Ev.congr (Ev.const _) fun k=>?_)) fun k=>?_
  ·simp only [garboardref32_asks.j0];rw [if_pos trivial]
  ·unfold garboardref32_asks.f;rw [hr,hrb,Option.bind_some,if_neg (by decide)]
 | true =>
  rw [hrb,Bool.true_and] at h
  by_cases h64:y.length≤64
  case neg =>
   rw [if_neg (show ¬ startB y = true from fun e=>by unfold startB at e;rw [decide_eq_false h64,Bool.false_and] at e;cases e)] at h
   injection h with _ h
   subst h
   refine Ev.congr (Ev.suc (f:=fun k=>garboardref32_asks.j0 k l x true) (Ev.congr (Ev.const _) fun k=>?_)) fun k=>?_
   ·simp only [garboardref32_asks.j0];rw [if_pos trivial]
   ·unfold garboardref32_asks.f;rw [hr,hrb,Option.bind_some,if_pos rfl,if_pos (by omega)]
  have hst:startB y = (incB y && y.all codeB):=by unfold startB;rw [decide_eq_true h64,Bool.true_and]
  have hri:=rises_ev y hy
  rw [← hst] at hri
  have hgo:∀ v,Ev (fun k=>garboardref32_asks.j0 k l x (!startB y)) v→Ev (fun k=>garboardref32_asks.f k l x y) v:=fun v hv=>by
   refine Ev.congr (hri.bind (g:=fun k t=>garboardref32_asks.j0 k l x (!t)) hv) fun k=>?_
   unfold garboardref32_asks.f
   rw [hr,hrb,Option.bind_some,if_pos rfl,if_neg (by omega)]
  refine hgo _ ?_
  cases hsb:startB y with
  | false =>
   rw [hsb,if_neg (by decide)] at h
   injection h with _ h
   subst h
   refine Ev.suc (Ev.congr (Ev.const _) fun k=>?_)
   simp only [garboardref32_asks.j0]
   rw [if_pos (by decide)]
  | true =>
   rw [hsb,if_pos rfl] at h
   have h0:=asks0_ev l x hl hx
   have he:(if incB x = true then (match pickO l x with|some _=>(0:Int)|none=>7) else 5) = e:=by
    by_cases hi:incB x = true
    ·rw [if_pos hi] at h ⊢
     cases hp:pickO l x with
     | none=>rw [hp] at h;injection h with _ h
     | some o=>rw [hp] at h;injection h with _ h
    ·rw [if_neg hi] at h ⊢
     injection h with _ h
   rw [he] at h0
   refine Ev.suc (Ev.congr h0 fun k=>?_)
   simp only [garboardref32_asks.j0]
   rw [if_neg (by decide)]
theorem opens_ev (l:List S48) (x:List Int) (hl:l.length≤1000000) (hx:x.length≤9223372036854775807):Ev (fun k=>garboardref32_opens.f k l x) (l.filter fun o=>decide (o.f0 ∈ x)):=by
 have key:∀ d (i:Nat) (acc:List S48),l.length - i = d→i≤l.length→acc.length≤i→Ev (fun k=>garboardref32_opens.l0 k l x acc (i:Int)) (acc ++ (l.drop i).filter fun o=>decide (o.f0 ∈ x)):=by
  intro d
  induction d with
  | zero =>
   intro i acc hd hi ha
   refine Ev.suc (Ev.congr (Ev.const _) fun k=>?_)
   simp only [garboardref32_opens.l0]
   rw [if_neg (by omega),List.drop_of_length_le (by omega)]
   simp
  | succ d ih =>
   intro i acc hd hi ha
   have hlt:i < l.length:=by omega
   have hrd:rd_T48 l (i:Int) = l[i]:=Option.some.inj ((rd48_get l i hlt).symm.trans (List.getElem?_eq_getElem hlt))
   have hh:=has_ev x l[i].f0 hx
   rw [List.drop_eq_getElem_cons hlt]
   by_cases hc:l[i].f0 ∈ x
   ·rw [List.filter_cons_of_pos (by simpa using hc),← List.singleton_append,← List.append_assoc]
    have h2:=ih (i + 1) (acc ++ [l[i]]) (by omega) (by omega) (by rw [List.length_append,List.length_singleton];omega)
    rw [decide_eq_true hc] at hh
    refine Ev.suc (Ev.congr (hh.bind (g:=fun k t=>if t = true then (if acc.length < 1759218604441 then garboardref32_opens.l0 k l x (acc ++ [l[i]]) (wrap64 ((i:Int) + 1)) else none) else garboardref32_opens.l0 k l x acc (wrap64 ((i:Int) + 1))) (Ev.congr h2 fun k=>by show (if _ then _ else _) = _;rw [if_pos rfl,if_pos (by omega),wi1 hlt (by omega)])) fun k=>?_)
    simp only [garboardref32_opens.l0]
    rw [if_pos (by omega),if_pos (by omega),hrd]
   ·rw [List.filter_cons_of_neg (by simpa using hc)]
    have h2:=ih (i + 1) acc (by omega) (by omega) (by omega)
    rw [decide_eq_false hc] at hh
    refine Ev.suc (Ev.congr (hh.bind (g:=fun k t=>if t = true then (if acc.length < 1759218604441 then garboardref32_opens.l0 k l x (acc ++ [l[i]]) (wrap64 ((i:Int) + 1)) else none) else garboardref32_opens.l0 k l x acc (wrap64 ((i:Int) + 1))) (Ev.congr h2 fun k=>by show (if _ then _ else _) = _;rw [if_neg (by decide),wi1 hlt (by omega)])) fun k=>?_)
    simp only [garboardref32_opens.l0]
    rw [if_pos (by omega),if_pos (by omega),hrd]
 exact key _ 0 [] rfl (by omega) (by simp)
theorem incU_eq {a b:List Int} (ha:a.Pairwise (· < ·)) (hb:b.Pairwise (· < ·)) (h:∀ x,x ∈ a ↔ x ∈ b):a = b :=
 (sub_inc b a ha hb (fun x hx=>(h x).1 hx)).eq_of_length_le (sub_inc a b hb ha (fun x hx=>(h x).2 hx)).length_le
theorem fidx_f0 (l:List S48) (id:Int) (h:¬ fidx (fun o:S48=>o.f0 == id) l 0 < 0):(rd_T48 l (fidx (fun o:S48=>o.f0 == id) l 0)).f0 = id:=by
 have key:∀ (l:List S48) (i:Nat),¬ fidx (fun o:S48=>o.f0 == id) l i < 0→∃ j o,l[j]? = some o∧o.f0 = id∧fidx (fun o:S48=>o.f0 == id) l i = ((i + j:Nat):Int):=by
  intro l
  induction l with
  | nil=>intro i h;unfold fidx at h;omega
  | cons x l ih =>
   intro i h
   unfold fidx at h ⊢
   by_cases e:(x.f0 == id) = true
   ·exact ⟨0,x,rfl,beq_iff_eq.1 e,by rw [if_pos e];rfl⟩
   ·rw [if_neg e] at h ⊢
    obtain ⟨j,o,h1,h2,h3⟩:=ih (i + 1) h
    exact ⟨j + 1,o,by simpa using h1,h2,by rw [h3];omega⟩
 obtain ⟨j,o,h1,h2,h3⟩:=key l 0 h
 rw [h3,Nat.zero_add]
 have hj:=(List.getElem?_eq_some_iff.1 h1).1
 have:rd_T48 l (j:Int) = o:=Option.some.inj ((rd48_get l j hj).symm.trans h1)
 rw [this,h2]
theorem pickO_ids {l:List S48}:∀ {a:List Int} {o:List S48},pickO l a = some o→o.map S48.f0 = a:=by
 intro a
 induction a with
 | nil=>intro o h;unfold pickO at h;injection h with h;subst h;rfl
 | cons y a ih =>
  intro o h
  unfold pickO at h
  rw [List.foldl_cons,Option.bind_some] at h
  by_cases hc:fidx (fun o:S48=>o.f0 == y) l 0 < 0
  ·rw [if_pos hc,fold_none] at h;cases h
  ·rw [if_neg hc,pickO_cons l y] at h
   cases e:pickO l a with
   | none=>rw [e] at h;cases h
   | some b =>
    rw [e] at h
    injection h with h
    subst h
    have h1:=fidx_f0 l y hc
    have h2:=ih e
    simp [h1,h2]
theorem ids_inj {l:List S48} (h:(l.map S48.f0).Pairwise (· < ·)) {x y:S48} (hx:x ∈ l) (hy:y ∈ l) (e:x.f0 = y.f0):x = y:=by
 obtain ⟨i,hi⟩:=List.getElem?_of_mem hx
 obtain ⟨j,hj⟩:=List.getElem?_of_mem hy
 obtain ⟨hil,hi⟩:=List.getElem?_eq_some_iff.1 hi
 obtain ⟨hjl,hj⟩:=List.getElem?_eq_some_iff.1 hj
 rw [List.pairwise_iff_getElem] at h
 rcases Nat.lt_trichotomy i j with hlt|rfl|hlt
 ·have:=h i j (by simpa using hil) (by simpa using hjl) hlt
  simp only [List.getElem_map,hi,hj] at this
  omega
 ·rw [← hi,← hj]
 ·have:=h j i (by simpa using hjl) (by simpa using hil) hlt
  simp only [List.getElem_map,hi,hj] at this
  omega
theorem map_inj {l:List S48} (h:(l.map S48.f0).Pairwise (· < ·)):∀ {a b:List S48},(∀ x ∈ a,x ∈ l)→(∀ x ∈ b,x ∈ l)→a.map S48.f0 = b.map S48.f0→a = b:=by
 intro a
 induction a with
 | nil=>intro b _ _ e;cases b with|nil=>rfl|cons x b=>cases e
 | cons x a ih =>
  intro b ha hb e
  cases b with
  | nil=>cases e
  | cons y b =>
   rw [List.map_cons,List.map_cons] at e
   injection e with e1 e2
   rw [ids_inj h (ha x (by simp)) (hb y (by simp)) e1,ih (fun z hz=>ha z (by simp [hz])) (fun z hz=>hb z (by simp [hz])) e2]
theorem pick_filter {l:List S48} {x:List Int} {o:List S48} (hl:rightB l = true) (hx:incB x = true) (h:pickO l x = some o):o = l.filter fun o=>decide (o.f0 ∈ x):=by
 have hids:=pickO_ids h
 have hsub:=pickO_sub h
 have hinc:(l.map S48.f0).Pairwise (· < ·):=by
  unfold rightB preB at hl
  simp only [Bool.and_eq_true] at hl
  exact incB_iff.1 hl.1.2
 refine map_inj hinc hsub (fun z hz=>(List.mem_filter.1 hz).1) ?_
 rw [hids]
 refine incU_eq (incB_iff.1 hx) (List.Pairwise.sublist (List.Sublist.map _ List.filter_sublist) hinc) fun id=>?_
 constructor
 ·intro hid
  rw [← hids] at hid
  obtain ⟨z,hz,rfl⟩:=List.mem_map.1 hid
  refine List.mem_map.2 ⟨z,List.mem_filter.2 ⟨hsub z hz,?_⟩,rfl⟩
  rw [← hids]
  exact decide_eq_true (List.mem_map.2 ⟨z,hz,rfl⟩)
 ·intro hid
  obtain ⟨z,hz,rfl⟩:=List.mem_map.1 hid
  exact of_decide_eq_true (List.mem_filter.1 hz).2
theorem other_f {o:S48} (h1:0≤o.f1) (h2:0≤o.f2) (n:Int):∃ t,garboardref32_other.f o.f0 o.f1 o.f2 o.f3 o.f4.f0 o.f4.f1 o.f4.f2 n = some t∧otherO o n = if t ≥ 0 then some t else none:=by
 unfold garboardref32_other.f otherO
 by_cases e1:o.f1 = n
 ·exact ⟨o.f2,by rw [if_pos e1],by rw [if_pos e1.symm,if_pos h2]⟩
 ·by_cases e2:o.f2 = n
  ·exact ⟨o.f1,by rw [if_neg e1,if_pos e2],by rw [if_neg (fun e=>e1 e.symm),if_pos e2.symm,if_pos h1]⟩
  ·exact ⟨-1,by rw [if_neg e1,if_neg e2],by rw [if_neg (fun e=>e1 e.symm),if_neg (fun e=>e2 e.symm),if_neg (by decide)]⟩
theorem leads1_ev (op:List S48) (way:List Int) (to_:Int) (at_:List Int) (i:Int) (kf:Nat) (o:S48) (ho:op[kf]? = some o) (h1:0≤o.f1) (h2:0≤o.f2) (hl:op.length≤1000000) (ha:at_.length≤1000000) (v:Bool)
  (hv:Ev (fun k=>garboardref32_leads.l0 k op way to_ (at_.filterMap (otherO o)) (wrap64 (i + 1))) v):Ev (fun k=>garboardref32_leads.l1 k op way to_ at_ i (kf:Int) [] 0) v:=by
 have hkl:=(List.getElem?_eq_some_iff.1 ho).1
 have hrd:rd_T48 op (kf:Int) = o:=Option.some.inj ((rd48_get op kf hkl).symm.trans ho)
 have key:∀ d (j:Nat) (acc:List Int),at_.length - j = d→j≤at_.length→acc.length≤j→acc ++ (at_.drop j).filterMap (otherO o) = at_.filterMap (otherO o)→Ev (fun k=>garboardref32_leads.l1 k op way to_ at_ i (kf:Int) acc (j:Int)) v:=by
  intro d
  induction d with
  | zero =>
   intro j acc hd hj hc he
   rw [List.drop_of_length_le (by omega)] at he
   rw [List.filterMap_nil,List.append_nil] at he
   rw [← he] at hv
   refine Ev.suc (Ev.congr hv fun k=>?_)
   simp only [garboardref32_leads.l1]
   rw [if_neg (by omega)]
  | succ d ih =>
   intro j acc hd hj hc he
   have hlt:j < at_.length:=by omega
   have hr1:=rd_nat at_ j hlt
   obtain ⟨t,ht,hot⟩:=other_f h1 h2 at_[j]
   rw [List.drop_eq_getElem_cons hlt] at he
   by_cases hp:t ≥ 0
   ·rw [if_pos hp] at hot
    rw [List.filterMap_cons_some hot,← List.singleton_append,← List.append_assoc] at he
    refine Ev.suc (Ev.congr (ih (j + 1) (acc ++ [t]) (by omega) (by omega) (by rw [List.length_append,List.length_singleton];omega) he) fun k=>?_)
    simp only [garboardref32_leads.l1]
    rw [if_pos (by omega),if_pos (by omega),if_pos (by omega),if_pos (by omega),hrd,hr1,ht,Option.bind_some,if_pos hp,if_pos (by omega),wi1 hlt (by omega)]
   ·rw [if_neg hp] at hot
    rw [List.filterMap_cons_none hot] at he
    refine Ev.suc (Ev.congr (ih (j + 1) acc (by omega) (by omega) (by omega) he) fun k=>?_)
    simp only [garboardref32_leads.l1]
    rw [if_pos (by omega),if_pos (by omega),if_pos (by omega),if_pos (by omega),hrd,hr1,ht,Option.bind_some,if_neg hp,wi1 hlt (by omega)]
 exact key _ 0 [] rfl (by omega) (by simp) (by simp)
theorem stepS_list (o:S48) (a:List Int):stepS o (fun n=>decide (n ∈ a)) = fun m=>decide (m ∈ a.filterMap (otherO o)):=by
 funext m
 rw [Bool.eq_iff_iff,stepS_iff,decide_eq_true_iff,List.mem_filterMap]
 constructor
 ·rintro ⟨n,h1,h2⟩;exact ⟨n,of_decide_eq_true h1,h2⟩
 ·rintro ⟨n,h1,h2⟩;exact ⟨n,decide_eq_true h1,h2⟩
theorem leads_ev (op:List S48) (fr way:List Int) (to_:Int) (hok:∀ o ∈ op,0≤o.f1∧0≤o.f2) (hl:op.length≤1000000) (hf:fr.length≤1000000) (hw:way.length≤9223372036854775807):Ev (fun k=>garboardref32_leads.f k op fr way to_) (leadsB op fr way to_):=by
 have key:∀ d (i:Nat) (a:List Int),way.length - i = d→i≤way.length→a.length≤1000000→Ev (fun k=>garboardref32_leads.l0 k op way to_ a (i:Int)) (match leadsS op (way.drop i) (fun n=>decide (n ∈ a)) with|none=>false|some S=>decide (0 < way.length) && S to_):=by
  intro d
  induction d with
  | zero =>
   intro i a hd hi ha
   rw [List.drop_of_length_le (by omega)]
   show Ev _ (decide (0 < way.length) && decide (to_ ∈ a))
   have hh:=has_ev a to_ (by omega)
   by_cases h0:0 < way.length
   ·rw [decide_eq_true h0,Bool.true_and]
    refine Ev.suc (Ev.congr (hh.bind (g:=fun _ t=>some t) (Ev.const _)) fun k=>?_)
    simp only [garboardref32_leads.l0]
    rw [if_neg (by omega),if_pos (by omega)]
   ·rw [decide_eq_false h0,Bool.false_and]
    refine Ev.suc (Ev.congr (Ev.const _) fun k=>?_)
    simp only [garboardref32_leads.l0]
    rw [if_neg (by omega),if_neg (by omega)]
  | succ d ih =>
   intro i a hd hi ha
   have hlt:i < way.length:=by omega
   have hr1:=rd_nat way i hlt
   have hfd:=find_ev op way[i] (by omega)
   rw [List.drop_eq_getElem_cons hlt]
   unfold leadsS
   by_cases hc:fidx (fun o:S48=>o.f0 == way[i]) op 0 < 0
   ·rw [if_pos hc]
    refine Ev.suc (Ev.congr (hfd.bind (g:=fun k t=>if t < 0 then some false else garboardref32_leads.l1 k op way to_ a (i:Int) t [] 0) (Ev.congr (Ev.const _) fun k=>if_pos hc)) fun k=>?_)
    simp only [garboardref32_leads.l0]
    rw [if_pos (by omega),if_pos (by omega),hr1]
   ·rw [if_neg hc,stepS_list]
    obtain ⟨kf,hkf⟩:∃ kf:Nat,fidx (fun o:S48=>o.f0 == way[i]) op 0 = (kf:Int):=⟨(fidx (fun o:S48=>o.f0 == way[i]) op 0).toNat,by omega⟩
    have hkl:kf < op.length:=by have:=fidx_lt (fun o:S48=>o.f0 == way[i]) op 0;omega
    have hrd:rd_T48 op (kf:Int) = op[kf]:=Option.some.inj ((rd48_get op kf hkl).symm.trans (List.getElem?_eq_getElem hkl))
    rw [hkf,hrd]
    rw [hkf] at hfd hc
    have hoo:=hok op[kf] (List.getElem_mem hkl)
    have h2:=ih (i + 1) (a.filterMap (otherO op[kf])) (by omega) (by omega) (Nat.le_trans (List.length_filterMap_le _ _) ha)
    rw [← wi1 hlt hw] at h2
    refine Ev.suc (Ev.congr (hfd.bind (g:=fun k t=>if t < 0 then some false else garboardref32_leads.l1 k op way to_ a (i:Int) t [] 0) (Ev.congr (leads1_ev op way to_ a (i:Int) kf op[kf] (List.getElem?_eq_getElem hkl) hoo.1 hoo.2 hl ha _ h2) fun k=>if_neg hc)) fun k=>?_)
    simp only [garboardref32_leads.l0]
    rw [if_pos (by omega),if_pos (by omega),hr1]
 have h:=key _ 0 fr rfl (by omega) hf
 rw [List.drop_zero] at h
 refine Ev.congr h fun k=>?_
 unfold garboardref32_leads.f
 rw [Option.bind_some,if_pos (by simp;omega),List.nil_append]
 rfl
theorem check1_ev (op:List S48) (all:List Int) (hl:op.length≤1000000) (ha:all.length≤9223372036854775807):Ev (fun k=>garboardref32_Check.l1 k op all 0) (if op.all (fun o=>decide (o.f1 ∈ all) == decide (o.f2 ∈ all)) = true then 0 else 14):=by
 have key:∀ d (i:Nat),op.length - i = d→i≤op.length→Ev (fun k=>garboardref32_Check.l1 k op all (i:Int)) (if (op.drop i).all (fun o=>decide (o.f1 ∈ all) == decide (o.f2 ∈ all)) = true then 0 else 14):=by
  intro d
  induction d with
  | zero =>
   intro i hd hi
   rw [List.drop_of_length_le (by omega)]
   refine Ev.suc (Ev.congr (Ev.const _) fun k=>?_)
   simp only [garboardref32_Check.l1]
   rw [if_neg (by omega)]
   rfl
  | succ d ih =>
   intro i hd hi
   have hlt:i < op.length:=by omega
   have hrd:rd_T48 op (i:Int) = op[i]:=Option.some.inj ((rd48_get op i hlt).symm.trans (List.getElem?_eq_getElem hlt))
   have hh1:=has_ev all op[i].f1 ha
   have hh2:=has_ev all op[i].f2 ha
   have h2:=ih (i + 1) (by omega) (by omega)
   rw [List.drop_eq_getElem_cons hlt,List.all_cons]
   have hgo:∀ v,Ev (fun k=>if (decide (op[i].f1 ∈ all) != decide (op[i].f2 ∈ all)) = true then some 14 else garboardref32_Check.l1 k op all (wrap64 ((i:Int) + 1))) v→Ev (fun k=>garboardref32_Check.l1 k op all (i:Int)) v:=fun v hv=>by
    refine Ev.suc (Ev.congr (hh1.bind (g:=fun k t=>(garboardref32_Has.f k all op[i].f2).bind fun u=>if (t != u) = true then some 14 else garboardref32_Check.l1 k op all (wrap64 ((i:Int) + 1))) (hh2.bind (g:=fun k u=>if (decide (op[i].f1 ∈ all) != u) = true then some 14 else garboardref32_Check.l1 k op all (wrap64 ((i:Int) + 1))) hv)) fun k=>?_)
    simp only [garboardref32_Check.l1]
    rw [if_pos (by omega),if_pos (by omega),hrd]
   refine hgo _ ?_
   by_cases hc:decide (op[i].f1 ∈ all) = decide (op[i].f2 ∈ all)
   ·rw [beq_iff_eq.2 hc,Bool.true_and]
    refine Ev.congr h2 fun k=>?_
    rw [if_neg (by simpa using hc),wi1 hlt (by omega)]
   ·rw [beq_eq_false_iff_ne.2 hc,Bool.false_and,if_neg (by decide)]
    refine Ev.congr (Ev.const _) fun k=>?_
    rw [if_pos (bne_iff_ne.2 hc)]
 have h:=key _ 0 rfl (by omega)
 rw [List.drop_zero] at h
 exact h
theorem ins_mem (fr:List Int) (l:List S29) (j:Int):insT fr l j = decide (j ∈ fr ++ l.map S29.f0):=by
 unfold insT
 rw [Bool.eq_iff_iff]
 simp only [Bool.or_eq_true,decide_eq_true_eq,List.any_eq_true,List.mem_append,List.mem_map]
 constructor
 ·rintro (h|⟨t,h1,h2⟩)
  ·exact .inl h
  ·exact .inr ⟨t,h1,h2.symm⟩
 ·rintro (h|⟨t,h1,h2⟩)
  ·exact .inl h
  ·exact .inr ⟨t,h1,h2.symm⟩
theorem check0_ev (op:List S48) (fr:List Int) (l3:List S29) (hok:∀ o ∈ op,0≤o.f1∧0≤o.f2) (hl:op.length≤1000000) (hf:fr.length≤1000000) (h3:l3.length≤1000000) (hw:∀ t ∈ l3,t.f1.length≤1000000) :
  Ev (fun k=>garboardref32_Check.l0 k fr l3 op fr 0) (if checkB op fr l3 = true then 0 else 14):=by
 have key:∀ d (i:Nat) (acc:List Int),l3.length - i = d→i≤l3.length→acc = fr ++ (l3.take i).map S29.f0→Ev (fun k=>garboardref32_Check.l0 k fr l3 op acc (i:Int)) (if (allT op fr (prevT l3 i) (l3.drop i) && op.all (fun o=>insT fr l3 o.f1 == insT fr l3 o.f2)) = true then 0 else 14):=by
  intro d
  induction d with
  | zero =>
   intro i acc hd hi ha
   rw [List.take_of_length_le (by omega)] at ha
   rw [List.drop_of_length_le (by omega)]
   show Ev _ (if (true && _) = true then (0:Int) else 14)
   rw [Bool.true_and]
   have h1:=check1_ev op acc hl (by rw [ha,List.length_append,List.length_map];omega)
   rw [ha] at h1
   have he:(fun o:S48=>decide (o.f1 ∈ fr ++ l3.map S29.f0) == decide (o.f2 ∈ fr ++ l3.map S29.f0)) = fun o=>insT fr l3 o.f1 == insT fr l3 o.f2:=by funext o;rw [ins_mem,ins_mem]
   rw [he] at h1
   refine Ev.suc (Ev.congr h1 fun k=>?_)
   simp only [garboardref32_Check.l0]
   rw [if_neg (by omega),ha]
  | succ d ih =>
   intro i acc hd hi ha
   have hlt:i < l3.length:=by omega
   have hrd:rd_T29 l3 (i:Int) = l3[i]:=Option.some.inj ((rd29_get l3 i hlt).symm.trans (List.getElem?_eq_getElem hlt))
   have hacc:acc.length≤2000000:=by rw [ha,List.length_append,List.length_map,List.length_take];omega
   have h2:=ih (i + 1) (acc ++ [l3[i].f0]) (by omega) (by omega) (by rw [ha,take_snoc_of (List.getElem?_eq_getElem hlt),List.map_append,List.append_assoc];rfl)
   rw [← wi1 hlt (by omega),show prevT l3 (i + 1) = some l3[i].f0 from by unfold prevT;rw [if_neg (by omega),Nat.add_sub_cancel,List.getElem?_eq_getElem hlt];rfl] at h2
   have hh:=has_ev fr l3[i].f0 (by omega)
   have hle:=leads_ev op fr l3[i].f1 l3[i].f0 hok hl hf (Nat.le_trans (hw _ (List.getElem_mem hlt)) (by omega))
   rw [List.drop_eq_getElem_cons hlt]
   unfold allT
   have hin:Ev (fun k=>(garboardref32_Has.f k fr l3[i].f0).bind fun t=>if t = true then some 14 else (garboardref32_leads.f k op fr l3[i].f1 l3[i].f0).bind fun u=>if u = true then (if acc.length < 17592186044416 then garboardref32_Check.l0 k fr l3 op (acc ++ [l3[i].f0]) (wrap64 ((i:Int) + 1)) else none) else some 14)
     (if ((!decide (l3[i].f0 ∈ fr) && leadsB op fr l3[i].f1 l3[i].f0) && (allT op fr (some l3[i].f0) (l3.drop (i + 1)) && op.all (fun o=>insT fr l3 o.f1 == insT fr l3 o.f2))) = true then 0 else 14):=by
    refine hh.bind (g:=fun k t=>if t = true then some 14 else (garboardref32_leads.f k op fr l3[i].f1 l3[i].f0).bind fun u=>if u = true then (if acc.length < 17592186044416 then garboardref32_Check.l0 k fr l3 op (acc ++ [l3[i].f0]) (wrap64 ((i:Int) + 1)) else none) else some 14) ?_
    cases hm:decide (l3[i].f0 ∈ fr) with
    | true=>exact Ev.congr (Ev.const _) fun k=>by rw [if_pos rfl];rfl
    | false =>
     rw [Bool.not_false,Bool.true_and]
     refine Ev.congr (hle.bind (g:=fun k u=>if u = true then (if acc.length < 17592186044416 then garboardref32_Check.l0 k fr l3 op (acc ++ [l3[i].f0]) (wrap64 ((i:Int) + 1)) else none) else some 14) ?_) fun k=>by rw [if_neg (by decide)]
     cases leadsB op fr l3[i].f1 l3[i].f0 with
     | false=>exact Ev.congr (Ev.const _) fun k=>by rw [if_neg (by decide)];rfl
     | true =>
      rw [Bool.true_and]
      exact Ev.congr h2 fun k=>by rw [if_pos rfl,if_pos (by omega)]
   unfold goodT
   by_cases h0:0 < i
   ·have hrd2:rd_T29 l3 ((i - 1:Nat):Int) = l3[i - 1]:=Option.some.inj ((rd29_get l3 (i - 1) (by omega)).symm.trans (List.getElem?_eq_getElem (by omega)))
    rw [show prevT l3 i = some l3[i - 1].f0 from by unfold prevT;rw [if_neg (by omega),List.getElem?_eq_getElem (by omega)];rfl]
    by_cases hc:l3[i].f0≤l3[i - 1].f0
    ·show Ev _ (if (((decide (l3[i - 1].f0 < l3[i].f0) && _) && _) && _) = true then (0:Int) else 14)
     rw [decide_eq_false (show ¬ l3[i - 1].f0 < l3[i].f0 by omega),Bool.false_and,Bool.false_and,Bool.false_and,if_neg (by decide)]
     refine Ev.suc (Ev.congr (Ev.const _) fun k=>?_)
     simp only [garboardref32_Check.l0]
     rw [if_pos (by omega),if_pos (by omega),if_pos (by omega),wd1 h0 (by omega),if_pos (by omega),if_pos (by omega),hrd,hrd2,if_pos hc]
    ·show Ev _ (if (((decide (l3[i - 1].f0 < l3[i].f0) && _) && _) && _) = true then (0:Int) else 14)
     rw [decide_eq_true (show l3[i - 1].f0 < l3[i].f0 by omega),Bool.true_and,Bool.and_assoc]
     refine Ev.suc (Ev.congr hin fun k=>?_)
     simp only [garboardref32_Check.l0]
     rw [if_pos (by omega),if_pos (by omega),if_pos (by omega),wd1 h0 (by omega),if_pos (by omega),if_pos (by omega),hrd,hrd2,if_neg hc]
   ·rw [show prevT l3 i = none from by unfold prevT;rw [if_pos (by omega)]]
    show Ev _ (if (((true && _) && _) && _) = true then (0:Int) else 14)
    rw [Bool.true_and,Bool.and_assoc]
    refine Ev.suc (Ev.congr hin fun k=>?_)
    simp only [garboardref32_Check.l0]
    rw [if_pos (by omega),if_pos (by omega),if_neg (by omega),hrd]
 have h:=key _ 0 fr rfl (by omega) (by simp)
 rw [List.drop_zero,show prevT l3 0 = none from rfl] at h
 exact h
theorem check_ev {l:List S48} {x y:List Int} {l3:List S29} {e:Int} (h:connection_Check.f l x y l3 = some e) (hl:l.length≤1000000) (hx:x.length≤1000000) (hy:y.length≤1000000) (hw:∀ t ∈ l3,t.f1.length≤1000000):Ev (fun k=>garboardref32_Check.f k l x y l3) e:=by
 unfold connection_Check.f at h
 by_cases hg:l3.length≤1000000∧(l3.all fun t=>wfB t.f0) = true
 case neg=>rw [if_neg hg] at h;cases h
 rw [if_pos hg] at h
 obtain ⟨⟨o,e0⟩,ho,h⟩:=Option.bind_eq_some_iff.1 h
 replace h:=Option.some.inj h
 have ha:=asks_ev ho hl (by omega) (by omega)
 by_cases he:e0 = 0
 ·subst he
  rw [if_pos rfl] at h
  obtain ⟨hri,hst,hin,hpk⟩:=chosen_inv ho
  have hop:=opens_ev l x hl (by omega)
  rw [← pick_filter hri hin hpk] at hop
  have hok:∀ q ∈ o,0≤q.f1∧0≤q.f2:=fun q hq=>by
   have:=right_ok hri q (pickO_sub hpk q hq)
   unfold okO at this
   have:=of_decide_eq_true this
   omega
  have hc:=check0_ev o y l3 hok (by have:=pickO_len hpk;omega) hy hg.1 hw
  rw [h] at hc
  refine Ev.congr (ha.bind (g:=fun k t=>if t = 0 then (garboardref32_opens.f k l x).bind fun t293=>(some (([]:List Int):List Int)).bind fun y296=>(if y296.length + y.length < 17592186044416 then garboardref32_Check.l0 k y l3 t293 (y296 ++ y) 0 else none) else some t) (Ev.congr (hop.bind (g:=fun k t293=>(some (([]:List Int):List Int)).bind fun y296=>(if y296.length + y.length < 17592186044416 then garboardref32_Check.l0 k y l3 t293 (y296 ++ y) 0 else none)) (Ev.congr hc fun k=>?_)) fun k=>if_pos rfl)) fun k=>rfl
  rw [Option.bind_some,if_pos (by simp;omega),List.nil_append]
 ·rw [if_neg he] at h
  subst h
  exact Ev.congr (ha.bind (g:=fun k t=>if t = 0 then (garboardref32_opens.f k l x).bind fun t293=>(some (([]:List Int):List Int)).bind fun y296=>(if y296.length + y.length < 17592186044416 then garboardref32_Check.l0 k y l3 t293 (y296 ++ y) 0 else none) else some t) (Ev.congr (Ev.const _) fun k=>if_neg he)) fun k=>rfl
attribute [local go_sem] max2_int min2_int max_two min_two max_three min_three max_four min_four
def garboardref32_Few.f (l0:List (S48)):Option (Bool):=if (l0.length:Int)≤14 then (some true) else (if (l0.length:Int) > 64 then (some (decide ((l0.length:Int)≤69))) else (some false))
set_option maxHeartbeats 8000000 in
set_option maxRecDepth 100000 in
theorem garboardref32_Few.calls (A0:Option Addr) (c0:Nat) (l0:List (S48)) (r:Bool) (w:World) (hr0:Kd.C k48 w A0 l0.length l0) (hc0:l0.length≤c0) (h:garboardref32_Few.f l0 = some r) :
  Calls Try.prog 45 #[.slice A0 l0.length c0] w fun e w'=>e = .returned (.bool r)∧Drawn0 w w':=by
 have HR0:=Aside0.mk hr0
 have HC0:=Aside0.mk hc0
 clear hr0 hc0
 have H:(if (l0.length:Int)≤14 then (some true) else (if (l0.length:Int) > 64 then (some (decide ((l0.length:Int)≤69))) else (some false))) = some r:=h
 clear h
 by_cases c2:(l0.length:Int)≤14
 ·rw [if_pos c2] at H
  have c2b0:decide ((l0.length:Int)≤14) = true:=decide_eq_true c2
  have c2b1:decide (l0.length≤14) = true:=decide_eq_true (by omega)
  clear c2
  obtain rfl:=Option.some.inj H
  go_enter Try.func45,Try.ntmps45
  go_wp2
  go_ret
  exact ⟨by first|rfl|(simp;done)|(simp [*];done),by repeat (first|exact Drawn0.refl _|apply Drawn0.step)⟩
 ·rw [if_neg c2] at H
  have c2b0:decide ((l0.length:Int)≤14) = false:=decide_eq_false c2
  have c2b1:decide (l0.length≤14) = false:=decide_eq_false (by omega)
  clear c2
  by_cases c3:(l0.length:Int) > 64
  ·rw [if_pos c3] at H
   have c3b0:decide (64 < (l0.length:Int)) = true:=decide_eq_true c3
   have c3b1:decide (64 < l0.length) = true:=decide_eq_true (by omega)
   clear c3
   obtain rfl:=Option.some.inj H
   go_enter Try.func45,Try.ntmps45
   go_wp2
   go_ret
   exact ⟨by first|rfl|(simp;done)|(simp [*];done),by repeat (first|exact Drawn0.refl _|apply Drawn0.step)⟩
  ·rw [if_neg c3] at H
   have c3b0:decide (64 < (l0.length:Int)) = false:=decide_eq_false c3
   have c3b1:decide (64 < l0.length) = false:=decide_eq_false (by omega)
   clear c3
   obtain rfl:=Option.some.inj H
   go_enter Try.func45,Try.ntmps45
   go_wp2
   go_ret
   exact ⟨by first|rfl|(simp;done)|(simp [*];done),by repeat (first|exact Drawn0.refl _|apply Drawn0.step)⟩
def garboardlaw32_small.f (l0:List (S48)) (l1:List Int) (l2:List Int):Option (Bool):=(garboardref32_Few.f l0).bind fun t251=>(if t251 = true then (if (l1.length:Int)≤70 then (some (decide ((l2.length:Int)≤70))) else (some false)) else (some false))
set_option maxHeartbeats 8000000 in
set_option maxRecDepth 100000 in
theorem garboardlaw32_small.calls (A0:Option Addr) (c0:Nat) (l0:List (S48)) (A1:Option Addr) (c1:Nat) (l1:List Int) (A2:Option Addr) (c2:Nat) (l2:List Int) (r:Bool) (w:World) (hr0:Kd.C k48 w A0 l0.length l0) (hc0:l0.length≤c0) (hr1:Kd.C (Kd.int .i64) w A1 l1.length l1) (hc1:l1.length≤c1) (hr2:Kd.C (Kd.int .i64) w A2 l2.length l2) (hc2:l2.length≤c2) (h:garboardlaw32_small.f l0 l1 l2 = some r) :
  Calls Try.prog 11 #[.slice A0 l0.length c0,.slice A1 l1.length c1,.slice A2 l2.length c2] w fun e w'=>e = .returned (.bool r)∧Drawn0 w w':=by
 have HR0:=Aside0.mk hr0
 have HC0:=Aside0.mk hc0
 clear hr0 hc0
 have HR1:=Aside0.mk hr1
 have HC1:=Aside0.mk hc1
 clear hr1 hc1
 have HR2:=Aside0.mk hr2
 have HC2:=Aside0.mk hc2
 clear hr2 hc2
 have H:((garboardref32_Few.f l0).bind fun t251=>(if t251 = true then (if (l1.length:Int)≤70 then (some (decide ((l2.length:Int)≤70))) else (some false)) else (some false))) = some r:=h
 clear h
 replace H:=Option.bind_eq_some_iff.mp H
 obtain ⟨t251,A40,H⟩:=H
 replace H:(if t251 = true then (if (l1.length:Int)≤70 then (some (decide ((l2.length:Int)≤70))) else (some false)) else (some false)) = some r:=H
 have A4:=Aside0.mk A40
 clear A40
 by_cases c5:t251 = true
 ·subst c5
  have H1:(if (l1.length:Int)≤70 then (some (decide ((l2.length:Int)≤70))) else (some false)) = some r:=by rw [if_pos rfl] at H;exact H
  clear H
  have H:=H1
  clear H1
  by_cases c6:(l1.length:Int)≤70
  ·rw [if_pos c6] at H
   have c6b0:decide ((l1.length:Int)≤70) = true:=decide_eq_true c6
   have c6b1:decide (l1.length≤70) = true:=decide_eq_true (by omega)
   clear c6
   obtain rfl:=Option.some.inj H
   go_enter Try.func11,Try.ntmps11
   go_wp2_with (first|((with_reducible refine gate_callee (f:=45) rfl ?_);refine goesL_ (some 8) rfl rfl Try.func45 (by kernel_rfl) rfl #[.slice A0 l0.length c0] rfl (by (try simp only [List.map_toArray,List.map_cons,List.map_nil]);first|done|rfl|(simp only [List.length_drop,List.length_take];rfl)) ?_;(with_reducible refine (garboardref32_Few.calls _ _ l0 true _ ?side1 ?side2 A4.out).mono ?_);(case side1=>repeat (first|exact HR0.out|(with_reducible refine Kd.C_alloc ?_ _)|(with_reducible refine Kd.C_drewN ?_ _)|(with_reducible refine Kd.C_drew ?_)));(case side2=>exact HC0.out);rintro e w' ⟨rfl,⟨nd,rfl⟩⟩;refine ⟨_,rfl,?_⟩))
   go_ret
   exact ⟨by first|rfl|(simp;done)|(simp [*];done),by repeat (first|exact Drawn0.refl _|apply Drawn0.step)⟩
  ·rw [if_neg c6] at H
   have c6b0:decide ((l1.length:Int)≤70) = false:=decide_eq_false c6
   have c6b1:decide (l1.length≤70) = false:=decide_eq_false (by omega)
   clear c6
   obtain rfl:=Option.some.inj H
   go_enter Try.func11,Try.ntmps11
   go_wp2_with (first|((with_reducible refine gate_callee (f:=45) rfl ?_);refine goesL_ (some 8) rfl rfl Try.func45 (by kernel_rfl) rfl #[.slice A0 l0.length c0] rfl (by (try simp only [List.map_toArray,List.map_cons,List.map_nil]);first|done|rfl|(simp only [List.length_drop,List.length_take];rfl)) ?_;(with_reducible refine (garboardref32_Few.calls _ _ l0 true _ ?side1 ?side2 A4.out).mono ?_);(case side1=>repeat (first|exact HR0.out|(with_reducible refine Kd.C_alloc ?_ _)|(with_reducible refine Kd.C_drewN ?_ _)|(with_reducible refine Kd.C_drew ?_)));(case side2=>exact HC0.out);rintro e w' ⟨rfl,⟨nd,rfl⟩⟩;refine ⟨_,rfl,?_⟩))
   go_ret
   exact ⟨by first|rfl|(simp;done)|(simp [*];done),by repeat (first|exact Drawn0.refl _|apply Drawn0.step)⟩
 ·replace c5:=Bool.eq_false_iff.mpr c5
  subst c5
  have H1:(some false) = some r:=by rw [if_neg (show ¬ (false = true) by decide)] at H;exact H
  clear H
  have H:=H1
  clear H1
  obtain rfl:=Option.some.inj H
  go_enter Try.func11,Try.ntmps11
  go_wp2_with (first|((with_reducible refine gate_callee (f:=45) rfl ?_);refine goesL_ (some 8) rfl rfl Try.func45 (by kernel_rfl) rfl #[.slice A0 l0.length c0] rfl (by (try simp only [List.map_toArray,List.map_cons,List.map_nil]);first|done|rfl|(simp only [List.length_drop,List.length_take];rfl)) ?_;(with_reducible refine (garboardref32_Few.calls _ _ l0 false _ ?side1 ?side2 A4.out).mono ?_);(case side1=>repeat (first|exact HR0.out|(with_reducible refine Kd.C_alloc ?_ _)|(with_reducible refine Kd.C_drewN ?_ _)|(with_reducible refine Kd.C_drew ?_)));(case side2=>exact HC0.out);rintro e w' ⟨rfl,⟨nd,rfl⟩⟩;refine ⟨_,rfl,?_⟩))
  go_ret
  exact ⟨by first|rfl|(simp;done)|(simp [*];done),by repeat (first|exact Drawn0.refl _|apply Drawn0.step)⟩
theorem small_ev (l0:List S48) (l1 l2:List Int):∃ b,garboardlaw32_small.f l0 l1 l2 = some b∧(b = true→l0.length≤70∧l1.length≤70∧l2.length≤70):=by
 unfold garboardlaw32_small.f garboardref32_Few.f
 by_cases h1:(l0.length:Int)≤14
 ·rw [if_pos h1,Option.bind_some,if_pos rfl]
  by_cases h2:(l1.length:Int)≤70
  ·rw [if_pos h2];exact ⟨_,rfl,fun h=>by have:=of_decide_eq_true h;omega⟩
  ·rw [if_neg h2];exact ⟨_,rfl,fun h=>by cases h⟩
 ·rw [if_neg h1]
  by_cases h3:(l0.length:Int) > 64
  ·rw [if_pos h3,Option.bind_some]
   by_cases h4:(l0.length:Int)≤69
   ·rw [if_pos (decide_eq_true h4)]
    by_cases h2:(l1.length:Int)≤70
    ·rw [if_pos h2];exact ⟨_,rfl,fun h=>by have:=of_decide_eq_true h;omega⟩
    ·rw [if_neg h2];exact ⟨_,rfl,fun h=>by cases h⟩
   ·rw [if_neg (by rw [decide_eq_false h4];decide)];exact ⟨_,rfl,fun h=>by cases h⟩
  ·rw [if_neg h3,Option.bind_some,if_neg (by decide)];exact ⟨_,rfl,fun h=>by cases h⟩
set_option maxHeartbeats 4000000 in
set_option maxRecDepth 100000 in
theorem law3 (A0:Option Addr) (c0:Nat) (l0:List S48) (A1:Option Addr) (c1:Nat) (l1:List Int) (A2:Option Addr) (c2:Nat) (l2:List Int) (A3:Option Addr) (c3:Nat) (l3:List S29) (w:World)
  (hr0:Kd.C k48 w A0 l0.length l0) (hc0:l0.length≤c0) (hr1:Kd.C (Kd.int .i64) w A1 l1.length l1) (hc1:l1.length≤c1) (hr2:Kd.C (Kd.int .i64) w A2 l2.length l2) (hc2:l2.length≤c2) (hr3:Kd.C k29 w A3 l3.length l3) (hc3:l3.length≤c3)
  (hwf:(l3.all fun t=>wfB t.f0) = true) :
  Calls Try.prog 3 #[.slice A0 l0.length c0,.slice A1 l1.length c1,.slice A2 l2.length c2,.slice A3 l3.length c3] w fun e w'=>e = .returned (.bool true)∧Below w.heap.size w w':=by
 have HR0:=Aside0.mk hr0
 have HR1:=Aside0.mk hr1
 have HR2:=Aside0.mk hr2
 have HR3:=Aside0.mk hr3
 have HWF:=Aside0.mk hwf
 obtain ⟨b,hsm,hbd⟩:=small_ev l0 l1 l2
 have HSM:=Aside0.mk hsm
 have HBD:=Aside0.mk hbd
 clear hr0 hr1 hr2 hr3 hwf hsm hbd
 go_enter Try.func3,Try.ntmps3
 go_wp2_with fail
 refine (awake10 w).mono ?_
 rintro e w1 ⟨rfl,hb1⟩
 have HB:=Aside0.mk hb1
 clear hb1
 go_wp2_with fail
 refine (garboardlaw32_small.calls A0 c0 l0 A1 c1 l1 A2 c2 l2 b w1 (Kd.C_below HR0.out HB.out) hc0 (Kd.C_below HR1.out HB.out) hc1 (Kd.C_below HR2.out HB.out) hc2 HSM.out).mono ?_
 rintro e w2 ⟨rfl,HD⟩
 obtain ⟨nd,rfl⟩:=HD.out
 have hbd0:Below w1.heap.size w1 (w1.drewN nd):=pw_below_drewN (Below.refl _ _) nd
 generalize w1.drewN nd = w2 at hbd0 ⊢
 replace HB:=Aside0.mk (below_then HB.out HB.out.size hbd0)
 clear HD hbd0
 cases b with
 | false =>
  go_wp2_with fail
  go_ret
  exact ⟨rfl,HB.out⟩
 | true =>
  obtain ⟨hl0,hl1,hl2⟩:=HBD.out rfl
  by_cases h40:l3.length≤40
  case neg =>
   have h40z:(40:Int) < (l3.length:Int):=by omega
   have h40d:=decide_eq_true h40z
   go_wp2_with fail
   go_ret
   exact ⟨rfl,HB.out⟩
  have h40z:¬ (40:Int) < (l3.length:Int):=by omega
  have h40d:=decide_eq_false h40z
  have hcon:=contains12 (fun t=>decide (40 < t.f1.length)) 13 #[] (enters_of Try.func13 (by kernel_rfl) rfl) A3 c3 l3 w2 (Kd.C_below HR3.out HB.out) (pred13 w2)
  cases hany:l3.any (fun t=>decide (40 < t.f1.length)) with
  | true =>
   rw [hany] at hcon
   clear hany
   go_wp2_with fail
   refine hcon.mono ?_
   clear hcon
   rintro e w3 ⟨rfl,hb3⟩
   replace HB:=Aside0.mk (below_then HB.out HB.out.size hb3)
   clear hb3
   go_wp2_with fail
   go_ret
   exact ⟨rfl,HB.out⟩
  | false =>
   rw [hany] at hcon
   have hw:∀ t ∈ l3,t.f1.length≤1000000:=fun t ht=>by
    have:=List.any_eq_false.1 hany t ht
    have:=of_decide_eq_false (Bool.eq_false_iff.2 this)
    omega
   have HW:=Aside0.mk hw
   clear hany hw
   obtain ⟨e0,hck⟩:∃ e0,connection_Check.f l0 l1 l2 l3 = some e0:=by
    unfold connection_Check.f
    rw [if_pos ⟨by omega,HWF.out⟩]
    unfold connection_chosen.f
    rw [Option.bind_some]
    exact ⟨_,rfl⟩
   obtain ⟨K,hK⟩:=check_ev hck (by omega) (by omega) (by omega) HW.out
   have hck2:=hK K (Nat.le_refl _)
   have HCK:=Aside0.mk hck
   have HCK2:=Aside0.mk hck2
   clear hck hck2 hK
   go_wp2_with fail
   refine hcon.mono ?_
   clear hcon
   rintro e w3 ⟨rfl,hb3⟩
   replace HB:=Aside0.mk (below_then HB.out HB.out.size hb3)
   clear hb3
   go_wp2_with fail
   refine (connection_Check.calls A0 c0 l0 A1 c1 l1 A2 c2 l2 A3 c3 l3 e0 w3 (Kd.C_below HR0.out HB.out) hc0 (Kd.C_below HR1.out HB.out) hc1 (Kd.C_below HR2.out HB.out) hc2 (Kd.C_below HR3.out HB.out) hc3 HCK.out).mono ?_
   rintro e w4 ⟨rfl,hb4⟩
   replace HB:=Aside0.mk (below_then HB.out HB.out.size hb4)
   clear hb4
   go_wp2_with fail
   refine (garboardref32_Check.calls K A0 c0 l0 A1 c1 l1 A2 c2 l2 A3 c3 l3 e0 w4 (Kd.C_below HR0.out HB.out) hc0 (Kd.C_below HR1.out HB.out) hc1 (Kd.C_below HR2.out HB.out) hc2 (Kd.C_below HR3.out HB.out) hc3 HCK2.out).mono ?_
   rintro e w5 ⟨rfl,hb5⟩
   replace HB:=Aside0.mk (below_then HB.out HB.out.size hb5)
   clear hb5
   have hee:(e0 == e0) = true:=beq_iff_eq.2 rfl
   go_wp2_with fail
   go_ret
   exact ⟨by first|rfl|simp,HB.out⟩
end Go.Proofs.Ytbfmfflhdphohaa.Pr
namespace Go.Proofs.Ytbfmfflhdphohaa.Pr
open Go.ChangeShapes Go.WideShapes Go.ChangeAt Go.RowKit Go.Proofs.YtbfmfflhdphohaaW.PrintWords
set_option maxRecDepth 100000 in
theorem connectionChecks_lifted (os:Os) (started:os.Started) (H:Type) (enc:TypeId × Value→H) :
  ReturnsInHanded {} Try.checked os 3 .any (Rows.connectionChecksSpec.pre6 enc Try.prog Try.f3 Rows.connectionChecksRow.domain false) (Rows.connectionChecksSpec.post enc Try.prog Try.f3 false true false false):=by
 refine returnsInHanded_of_change (C:=Try.checked) own started (by kernel_rfl) Try.func3
  (ChangeSpec.witness6 (enc:=enc) (C:=Try.checked) false ⟨#[],#[.slice none 0 0,.slice none 0 0,.slice none 0 0,.slice none 0 0],[]⟩ 8 (by kernel_rfl) (by kernel_rfl) (by kernel_rfl) (by kernel_rfl)) ?_
 intro W base args ds gs before hval0 hW _ _
 have hval:∀ (j:Nat) t v,Try.f3.params[j]? = some t→args[j]? = some v→Value.okWide Try.prog W .any base t v:=hval0
 have hW':=hW
 obtain ⟨p,q,hA0,hV,rfl,hfz,hnd⟩:=hW
 have hA:DataW.TrodAll enc Try.prog W 0 (fun _=>true) true Try.f3.params.toList args.toList ds p:=hA0
 rw [Try.params3] at hA hval
 obtain ⟨v0,vs0,d0,ds0,p0,q0,hargs,rfl,rfl,h0,r0⟩:=trodAll_cons hA
 obtain ⟨v1,vs1,d1,ds1,p1,q1,rfl,rfl,rfl,h1,r1⟩:=trodAll_cons r0
 obtain ⟨v2,vs2,d2,ds2,p2,q2,rfl,rfl,rfl,h2,r2⟩:=trodAll_cons r1
 obtain ⟨v3,vs3,d3,ds3,p3,q3,rfl,rfl,rfl,h3,r3⟩:=trodAll_cons r2
 obtain ⟨rfl,rfl,rfl⟩:=trodAll_nil r3
 obtain rfl:args = #[v0,v1,v2,v3]:=by cases args;simp_all
 obtain ⟨rfl,rfl⟩:=trodVars_none hV
 have lt0:∀ x ∈ p0,x.block < W.heap.size:=by obtain ⟨m,hm⟩:=h0;exact DataW.trod_lt m _ _ _ hm
 have lt1:∀ x ∈ p1,x.block < W.heap.size:=by obtain ⟨m,hm⟩:=h1;exact DataW.trod_lt m _ _ _ hm
 have lt2:∀ x ∈ p2,x.block < W.heap.size:=by obtain ⟨m,hm⟩:=h2;exact DataW.trod_lt m _ _ _ hm
 have lt3:∀ x ∈ p3,x.block < W.heap.size:=by obtain ⟨m,hm⟩:=h3;exact DataW.trod_lt m _ _ _ hm
 have k0:=h0
 have k1:=h1
 have k2:=h2
 have k3:=h3
 obtain ⟨A0,cap0,a0,rfl,lc0,C0,z0⟩:=openOs h0 (okWide_slice Try.underlying22 (hval 0 22 v0 rfl rfl))
 obtain ⟨A1,cap1,a1,rfl,lc1,C1,z1⟩:=openIs h1 (okWide_slice Try.underlying23 (hval 1 23 v1 rfl rfl))
 obtain ⟨A2,cap2,a2,rfl,lc2,C2,z2⟩:=openIs h2 (okWide_slice Try.underlying23 (hval 2 23 v2 rfl rfl))
 obtain ⟨A3,cap3,a3,rfl,lc3,C3,z3⟩:=openTs h3 (okWide_slice Try.underlying24 (hval 3 24 v3 rfl rfl))
 clear hA0 hval0 hval
 have hwf:(a3.all fun t=>wfB t.f0) = true:=List.all_eq_true.2 fun t ht=>by
  have:=(Lit.wf_int_iff .i64 t.f0).1 (z3 t ht).1
  unfold wfB
  exact Bool.and_eq_true_iff.2 ⟨decide_eq_true this.1,decide_eq_true this.2⟩
 refine (law3 A0 cap0 a0 A1 cap1 a1 A2 cap2 a2 A3 cap3 a3 W C0 lc0 C1 lc1 C2 lc2 C3 lc3 hwf).mono fun e W' ⟨he,bel⟩=>?_
 subst he
 exact ⟨_,rfl,_,_,_,[],_,[],hW',trodAll_mk1 (shut_bool Try.underlying4 _),(trodAll_cons_mk (Below.trod laidOut (by kernel_rfl) (of_decide_eq_true (by kernel_rfl)) k0 bel lt0) (trodAll_cons_mk (Below.trod laidOut (by kernel_rfl) (of_decide_eq_true (by kernel_rfl)) k1 bel lt1) (trodAll_cons_mk (Below.trod laidOut (by kernel_rfl) (of_decide_eq_true (by kernel_rfl)) k2 bel lt2) (trodAll_cons_mk (Below.trod laidOut (by kernel_rfl) (of_decide_eq_true (by kernel_rfl)) k3 bel lt3) trodAll_mk0)))),rfl,bel.frame _,fun h=>by cases h⟩
end Go.Proofs.Ytbfmfflhdphohaa.Pr
namespace Go.Proofs.Ytbfmfflhdphohaa
open Go Go.ChangeShapes Go.WideShapes Go.ChangeAt
theorem connectionChecks_holds:Rows.ConnectionChecksSaid :=
 OpenClaim.holds_of_wide 3 Try.f3 rfl rfl rfl rfl rfl rfl rfl ⟨rfl,rfl,rfl,rfl,rfl⟩ rfl rfl rfl rfl rfl (by kernel_rfl) Try.func3 (by kernel_rfl)
  (of_decide_eq_true (by kernel_rfl)) (by unfold Func.isWrapper;first|(rw [if_pos (by decide +kernel)];kernel_rfl)|(rw [if_neg (by decide +kernel)];exact ⟨rfl,rfl⟩))
  (fun os started H enc _=>Pr.connectionChecks_lifted os started H enc)
end Go.Proofs.Ytbfmfflhdphohaa
