/- Lemmas of functions that the law FnExactBalanceMove reaches, and that it returns true for all data of its types. No conditions but those that the lemmas state. -/
import Derived.Test.YtmfjkbbmhaofbaaGreatA1
namespace Go.Proofs.YtmfjkbbmhaofbaaGreatV
open Go Go.RowKit
open Nat (reduceLT reduceAdd reduceSub)
open IOp (dst isF args)
set_option linter.unusedVariables false
set_option linter.unusedSimpArgs false
set_option maxRecDepth 4000
theorem stableSort_go (l : List Route) (n : Nat) (hn : n = l.length) (h8 : l.length ≤ 8) : EE F 145 [.sc (.own (.par 0) n), .sc (.u (.fn 146 []))] [.row 3 (l.map Route.u)] = some ⟨[], [], [.row 3 ((sortR l).map Route.u)]⟩ := by
  refine (EE_run (fn := i145) (by kernel_rfl) rfl).trans ?_
  simp only [i145,b145,argSt,insSt,List.length_cons,List.length_nil]
  have hs := stable_go l n hn h8
  simp only [↓xP,xQ,xR,xS,flatR,reduceLT,Nat.reduceBEq,reduceAdd,reduceSub,hs,sortR_len,Nat.le_refl,List.length_map]
def routesRet (l : List Shard) : Option Ret := some ⟨[.sc (.own (.par 0) (routesOf l).length)], [.row 3 ((routesOf l).map Route.u)], []⟩
theorem liveRoutes_ok (c0 : List Shard) (c1 : List Caller) (c2 : List Result) (c3 c4 c5 : Int) (c6 : Str) (c7 c8 c9 c10 c11 : Int) (h8 : c0.length ≤ 8) : EE F 79 [.ag [.u (.sl 14 (c0.map Shard.u)), .u (.sl 8 (c1.map Caller.u)), .u (.sl 9 (c2.map Result.u)), .u (.int .i64 c3), .u (.int .i64 c4), .u (.int .i64 c5), .u (.str c6), .u (.int .i64 c7), .u (.int .i64 c8), .u (.int .i64 c9), .u (.int .i64 c10), .u (.int .i64 c11)]] [] = routesRet c0 := by
  rw [R79, b79]
  simp only [↓xP,xQ,xR,xS,flatR,reduceLT,Nat.reduceBEq,reduceAdd,reduceSub]
  refine loop_ind (fun (i : Nat) st => i ≤ c0.length ∧ st.s 3 = .t (.sc (.own (.loc 3 0) (liveR (c0.take i) 0).length)) ∧ st.o (.loc 3 0) = some (.row 3 ((liveR (c0.take i) 0).map Route.u)) ∧ st.s 7 = DU (.sl 14 (c0.map Shard.u)) ∧ st.s 8 = DI c0.length ∧ st.s 9 = DI i) (fun i => c0.length - i) (fun _ => routesRet c0) ?_ 0 (by and_intros <;> first | omega | rfl | (simp only [↓xP,xQ,xR,xS,flatR,reduceLT,Nat.reduceBEq,reduceAdd,reduceSub] <;> first | done | rfl | omega))
  rintro i st ⟨hle, h3, ho, h7, h8', h9⟩ ih
  by_cases hi : i < c0.length
  · obtain ⟨⟨live, ⟨⟨⟨lo, up⟩, prs, kn, sld, cut⟩, ⟨ep, ms, fr⟩, nds, ups, bag, ans⟩⟩, hx⟩ : ∃ x, c0[i]? = some x := ⟨_, List.getElem?_eq_getElem hi⟩
    have hw := w_succ (i := i) (by omega)
    have hst := liveR_step hx
    have hll := liveR_len (c0.take i) 0
    have hlt : (c0.take i).length = i := by rw [List.length_take]; omega
    obtain ⟨q1, q2⟩ := small_max (n := (liveR (c0.take i) 0).length + 1) (k := 40) (by omega) (by omega)
    cases live
    · simp only [Bool.false_eq_true,if_false,List.append_nil] at hst
      simp only [↓xP,xQ,xR,xS,flatR,reduceLT,Nat.reduceBEq,reduceAdd,reduceSub,h3,ho,h7,h8',h9,hi,hx,hw,Shard.u]
      rw [ih (i + 1) _ (by omega) (by and_intros <;> first | omega | rfl | (simp only [↓xP,xQ,xR,xS,flatR,reduceLT,Nat.reduceBEq,reduceAdd,reduceSub,h3,ho,h7,h8',hst] <;> first | done | rfl | omega))]
    · simp only [if_true] at hst
      simp only [↓xP,xQ,xR,xS,flatR,reduceLT,Nat.reduceBEq,reduceAdd,reduceSub,h3,ho,h7,h8',h9,hi,hx,hw,Shard.u,List.length_map,q1,q2]
      have hm : (liveR (c0.take i) 0).map Route.u ++ [[.int .i64 (i : Int), .str lo, .str up]] = (liveR (c0.take (i + 1)) 0).map Route.u := by rw [hst]; simp [Route.u]
      have hln : (liveR (c0.take i) 0).length + 1 = (liveR (c0.take (i + 1)) 0).length := by rw [hst]; simp
      rw [ih (i + 1) _ (by omega) (by and_intros <;> first | omega | rfl | (simp only [↓xP,xQ,xR,xS,flatR,reduceLT,Nat.reduceBEq,reduceAdd,reduceSub,h3,ho,h7,h8',hm,hln] <;> first | done | rfl | omega))]
  · obtain rfl : i = c0.length := by omega
    rw [List.take_length] at h3 ho
    have hll := liveR_len c0 0
    have hs := stableSort_go (liveR c0 0) _ rfl (by omega)
    have hsl := sortR_len (liveR c0 0)
    simp only [↓xP,xQ,xR,xS,flatR,reduceLT,Nat.reduceBEq,reduceAdd,reduceSub,h3,ho,h7,h8',h9,hi,hs,List.length_map,hsl,Nat.le_refl,routesRet,routesOf]
theorem sortR_snoc (l : List Route) (x : Route) : sortR (l ++ [x]) = insL (sortR l) x := by simp [sortR]
def swid : Bool → Id
  | false => .loc 8 0
  | true => .loc 33 0
theorem takes_ok {l : List Route} {j : Nat} {x : Route} (hj : j ≤ l.length) (ha : ∀ q, q ∈ l.take j → rle q x = true) (hb : ∀ q, l[j]? = some q → rle q x = false) : l.take j ++ x :: l.drop j = insL l x := by
  have := insL_at (a := l.take j) (b := l.drop j) (x := x) ha (fun q hq => hb q (by rw [List.head?_drop] at hq; exact hq))
  rw [List.take_append_drop] at this
  exact this.symm
theorem l27Routes_ok (c0 : List Shard) (c1 : List Caller) (c2 : List Result) (c3 c4 c5 : Int) (c6 : Str) (c7 c8 c9 c10 c11 : Int) (h8 : c0.length ≤ 8) : EE F 82 [.ag [.u (.sl 14 (c0.map Shard.u)), .u (.sl 8 (c1.map Caller.u)), .u (.sl 9 (c2.map Result.u)), .u (.int .i64 c3), .u (.int .i64 c4), .u (.int .i64 c5), .u (.str c6), .u (.int .i64 c7), .u (.int .i64 c8), .u (.int .i64 c9), .u (.int .i64 c10), .u (.int .i64 c11)]] [] = routesRet c0 := by
  rw [R82, b82]
  simp only [↓xP,xQ,xR,xS,flatR,reduceLT,Nat.reduceBEq,reduceAdd,reduceSub]
  refine loop_ind (fun (a : Nat × Bool) st => a.1 ≤ c0.length ∧ (a.2 = false → sortR (liveR (c0.take a.1) 0) = []) ∧ st.s 1 = .t (.sc (.ptr (.loc 1 0) 0 0)) ∧ st.o (.loc 1 0) = some (.box [.u (.sl 14 (c0.map Shard.u)), .u (.sl 8 (c1.map Caller.u)), .u (.sl 9 (c2.map Result.u)), .u (.int .i64 c3), .u (.int .i64 c4), .u (.int .i64 c5), .u (.str c6), .u (.int .i64 c7), .u (.int .i64 c8), .u (.int .i64 c9), .u (.int .i64 c10), .u (.int .i64 c11)]) ∧ st.s 3 = .t (.sc (.own (swid a.2) (sortR (liveR (c0.take a.1) 0)).length)) ∧ st.o (swid a.2) = some (.row 3 ((sortR (liveR (c0.take a.1) 0)).map Route.u)) ∧ st.s 4 = DI a.1) (fun a => c0.length - a.1) (fun _ => routesRet c0) ?_ (0, false) ⟨by omega, fun _ => rfl, (by and_intros <;> first | omega | rfl | (simp only [↓xP,xQ,xR,xS,flatR,reduceLT,Nat.reduceBEq,reduceAdd,reduceSub] <;> first | done | rfl | omega))⟩
  rintro ⟨i, b⟩ st ⟨hle, hb, h1, hbx, h3, ho, h4⟩ ih
  dsimp only at *
  by_cases hi : i < c0.length
  · obtain ⟨⟨live, ⟨⟨⟨lo, up⟩, prs, kn, sld, cut⟩, ⟨ep, ms, fr⟩, nds, ups, bag, ans⟩⟩, hx⟩ : ∃ x, c0[i]? = some x := ⟨_, List.getElem?_eq_getElem hi⟩
    have hw := w_succ (i := i) (by omega)
    have hst := liveR_step hx
    have hll := liveR_len (c0.take i) 0
    have hlt : (c0.take i).length = i := by rw [List.length_take]; omega
    have hsl := sortR_len (liveR (c0.take i) 0)
    cases live
    · simp only [Bool.false_eq_true,if_false,List.append_nil] at hst
      rw [← hst] at hb h3 ho
      cases b <;> simp only [swid] at h3 ho <;> simp only [↓xP,xQ,xR,xS,flatR,reduceLT,Nat.reduceBEq,reduceAdd,reduceSub,h1,hbx,h3,ho,h4,hi,hx,hw,Shard.u]
      · exact ih (i + 1, false) _ (by dsimp only; omega) ⟨by dsimp only; omega, hb, (by and_intros <;> first | omega | rfl | (simp only [↓xP,xQ,xR,xS,flatR,reduceLT,Nat.reduceBEq,reduceAdd,reduceSub,h1,hbx,h3,ho,swid] <;> first | done | rfl | omega))⟩
      · exact ih (i + 1, true) _ (by dsimp only; omega) ⟨by dsimp only; omega, hb, (by and_intros <;> first | omega | rfl | (simp only [↓xP,xQ,xR,xS,flatR,reduceLT,Nat.reduceBEq,reduceAdd,reduceSub,h1,hbx,h3,ho,swid] <;> first | done | rfl | omega))⟩
    · simp only [if_true] at hst
      have hso : sortR (liveR (c0.take (i + 1)) 0) = insL (sortR (liveR (c0.take i) 0)) ⟨(i : Int), ⟨lo, up⟩⟩ := by rw [hst, sortR_snoc]
      obtain ⟨o, hoo⟩ : ∃ o, o = sortR (liveR (c0.take i) 0) := ⟨_, rfl⟩
      rw [← hoo] at hb h3 ho hso hsl
      obtain ⟨q1, q2⟩ := small_max (n := o.length + 1) (k := 40) (by omega) (by omega)
      cases b
      · have ho0 : o = [] := hb rfl
        subst ho0
        simp only [swid,List.length_nil,List.map_nil] at h3 ho
        simp only [↓xP,xQ,xR,xS,flatR,reduceLT,Nat.reduceBEq,reduceAdd,reduceSub,h1,hbx,h3,ho,h4,hi,hx,hw,Shard.u]
        refine loop_ind (fun (_ : Unit) st => st.s 1 = .t (.sc (.ptr (.loc 1 0) 0 0)) ∧ st.o (.loc 1 0) = some (.box [.u (.sl 14 (c0.map Shard.u)), .u (.sl 8 (c1.map Caller.u)), .u (.sl 9 (c2.map Result.u)), .u (.int .i64 c3), .u (.int .i64 c4), .u (.int .i64 c5), .u (.str c6), .u (.int .i64 c7), .u (.int .i64 c8), .u (.int .i64 c9), .u (.int .i64 c10), .u (.int .i64 c11)]) ∧ st.s 4 = DI i ∧ st.s 5 = .t (.sc (.ptr (.loc 5 0) 0 0)) ∧ st.o (.loc 5 0) = some (.box [.u (.int .i64 (i : Int)), .u (.str lo), .u (.str up)]) ∧ st.s 6 = .t (.sc (.own (.loc 33 0) 0)) ∧ st.o (.loc 33 0) = some (.row 3 []) ∧ st.s 7 = DI 0 ∧ st.s 3 = .t (.sc (.own (.loc 8 0) 0)) ∧ st.o (.loc 8 0) = some (.row 3 [])) (fun _ => 0) (fun _ => routesRet c0) ?_ () (by and_intros <;> first | omega | rfl | (simp only [↓xP,xQ,xR,xS,flatR,reduceLT,Nat.reduceBEq,reduceAdd,reduceSub,h1,hbx,h3,ho,h4] <;> first | done | rfl | omega))
        clear h1 hbx h3 ho h4
        rintro _ st ⟨h1, hbx, h4, h5, hb5, h6, hb6, h7, h3, ho⟩ _
        have hc1 : vcut 0 none (some (DI 0)) = some (0, 0) := by decide
        have hc2 : vcut 0 (some (DI 0)) none = some (0, 0) := by decide
        have z1 : 0 ≤ maxLen := Nat.zero_le _
        have z2 : 0 * 40 ≤ 140737488355328 := by omega
        have z3 : 1 ≤ maxLen := by simp [maxLen]
        have z4 : 1 * 40 ≤ 140737488355328 := by omega
        have hz : ((0 : Int) < ((0 : Nat) : Int)) = False := by simp
        simp only [↓xP,xQ,xR,xS,flatR,reduceLT,Nat.reduceBEq,reduceAdd,reduceSub,rdx2,h1,hbx,h4,h5,hb5,h6,hb6,h7,h3,ho,hz,hc1,hc2,z1,z2,z3,z4,List.length_nil,List.length_cons,Nat.zero_add,Nat.add_zero,List.nil_append,List.append_nil]
        have hrow : [[U.int .i64 (i : Int), .str lo, .str up]] = (sortR (liveR (c0.take (i + 1)) 0)).map Route.u := by rw [hso]; rfl
        have hlen2 : 1 = (sortR (liveR (c0.take (i + 1)) 0)).length := by rw [hso]; rfl
        exact ih (i + 1, true) _ (by dsimp only; omega) ⟨by dsimp only; omega, (fun h => by cases h), (by and_intros <;> first | omega | rfl | (simp only [↓xP,xQ,xR,xS,flatR,reduceLT,Nat.reduceBEq,reduceAdd,reduceSub,h1,hbx,hw,swid,hrow,← hlen2] <;> first | done | rfl | omega))⟩
      · simp only [swid] at h3 ho
        simp only [↓xP,xQ,xR,xS,flatR,reduceLT,Nat.reduceBEq,reduceAdd,reduceSub,h1,hbx,h3,ho,h4,hi,hx,hw,Shard.u]
        refine loop_ind (fun (j : Nat) st => j ≤ o.length ∧ (∀ q, q ∈ o.take j → rle q ⟨(i : Int), ⟨lo, up⟩⟩ = true) ∧ st.s 1 = .t (.sc (.ptr (.loc 1 0) 0 0)) ∧ st.o (.loc 1 0) = some (.box [.u (.sl 14 (c0.map Shard.u)), .u (.sl 8 (c1.map Caller.u)), .u (.sl 9 (c2.map Result.u)), .u (.int .i64 c3), .u (.int .i64 c4), .u (.int .i64 c5), .u (.str c6), .u (.int .i64 c7), .u (.int .i64 c8), .u (.int .i64 c9), .u (.int .i64 c10), .u (.int .i64 c11)]) ∧ st.s 4 = DI i ∧ st.s 5 = .t (.sc (.ptr (.loc 5 0) 0 0)) ∧ st.o (.loc 5 0) = some (.box [.u (.int .i64 (i : Int)), .u (.str lo), .u (.str up)]) ∧ st.s 6 = .t (.sc (.own (.loc 33 0) 0)) ∧ st.o (.loc 33 0) = some (.row 3 []) ∧ st.s 7 = DI j ∧ st.s 3 = DU (.sl 3 (o.map Route.u))) (fun j => o.length - j) (fun _ => routesRet c0) ?_ 0 ⟨by omega, (by intro q hq; simp at hq), (by and_intros <;> first | omega | rfl | (simp only [↓xP,xQ,xR,xS,flatR,reduceLT,Nat.reduceBEq,reduceAdd,reduceSub,h1,hbx,h3,ho,h4] <;> first | done | rfl | omega))⟩
        clear h1 hbx h3 ho h4
        rintro j st ⟨hj, hta, h1, hbx, h4, h5, hb5, h6, hb6, h7, h3⟩ ih2
        have hdone : (∀ q, o[j]? = some q → rle q ⟨(i : Int), ⟨lo, up⟩⟩ = false) → o.take j ++ ⟨(i : Int), ⟨lo, up⟩⟩ :: o.drop j = insL o ⟨(i : Int), ⟨lo, up⟩⟩ := fun h => takes_ok hj hta h
        have hc1 : vcut o.length none (some (DI (j : Int))) = some (0, j) := cut_to (by omega)
        have hc2 : vcut o.length (some (DI (j : Int))) none = some (j, o.length) := cut_from (by omega)
        obtain ⟨m1, m2⟩ := small_max (n := j) (k := 40) (by omega) (by omega)
        obtain ⟨m3, m4⟩ := small_max (n := j + 1) (k := 40) (by omega) (by omega)
        obtain ⟨m5, m6⟩ := small_max (n := j + 1 + (o.length - j)) (k := 40) (by omega) (by omega)
        have ht1 : (List.take j (o.map Route.u)).length = j := by rw [List.length_take, List.length_map]; omega
        have ht2 : (List.drop j (o.map Route.u)).length = o.length - j := by rw [List.length_drop, List.length_map]
        by_cases hjo : j < o.length
        · obtain ⟨⟨qn, ⟨qlo, qup⟩⟩, hq⟩ : ∃ x, o[j]? = some x := ⟨_, List.getElem?_eq_getElem hjo⟩
          have hw2 := w_succ (i := j) (by omega)
          cases hr : strLt lo qlo
          · simp only [↓xP,xQ,xR,xS,flatR,reduceLT,Nat.reduceBEq,reduceAdd,reduceSub,rdx2,h1,hbx,h4,h5,hb5,h6,hb6,h7,h3,hjo,hq,hw2,Route.u,le_iff,hr]
            have hta' : ∀ q, q ∈ o.take (j + 1) → rle q ⟨(i : Int), ⟨lo, up⟩⟩ = true := by
              intro q hq2
              rw [List.take_add_one, hq] at hq2
              rcases List.mem_append.1 hq2 with hq2 | hq2
              · exact hta q hq2
              · simp at hq2; subst hq2; simp [rle, hr]
            exact ih2 (j + 1) _ (by omega) ⟨by omega, hta', (by and_intros <;> first | omega | rfl | (simp only [↓xP,xQ,xR,xS,flatR,reduceLT,Nat.reduceBEq,reduceAdd,reduceSub,h1,hbx,h4,h5,hb5,h6,hb6,h3,hw2] <;> first | done | rfl | omega))⟩
          · simp only [↓xP,xQ,xR,xS,flatR,reduceLT,Nat.reduceBEq,reduceAdd,reduceSub,rdx2,h1,hbx,h4,h5,hb5,h6,hb6,h7,h3,hjo,hq,hw2,Route.u,le_iff,hr,hc1,hc2,List.length_map,m1,m2,m3,m4,m5,m6,ht1,ht2,Nat.zero_add,List.nil_append,List.length_append,List.length_cons,List.length_nil,List.drop_zero]
            have hrow : List.take j (o.map Route.u) ++ [[U.int .i64 (i : Int), .str lo, .str up]] ++ List.drop j (o.map Route.u) = (sortR (liveR (c0.take (i + 1)) 0)).map Route.u := by
              rw [hso, ← hdone (fun q hq2 => by rw [hq] at hq2; cases hq2; simp [rle, hr])]; simp [Route.u]
            have hlen2 : j + 1 + (o.length - j) = (sortR (liveR (c0.take (i + 1)) 0)).length := by rw [hso, insL_len]; omega
            exact ih (i + 1, true) _ (by dsimp only; omega) ⟨by dsimp only; omega, (fun h => by cases h), (by and_intros <;> first | omega | rfl | (simp only [↓xP,xQ,xR,xS,flatR,reduceLT,Nat.reduceBEq,reduceAdd,reduceSub,h1,hbx,hw,swid,hrow,hlen2] <;> first | done | rfl | omega))⟩
        · simp only [↓xP,xQ,xR,xS,flatR,reduceLT,Nat.reduceBEq,reduceAdd,reduceSub,rdx2,h1,hbx,h4,h5,hb5,h6,hb6,h7,h3,hjo,hc1,hc2,List.length_map,m1,m2,m3,m4,m5,m6,ht1,ht2,Nat.zero_add,List.nil_append,List.length_append,List.length_cons,List.length_nil,List.drop_zero]
          have hrow : List.take j (o.map Route.u) ++ [[U.int .i64 (i : Int), .str lo, .str up]] ++ List.drop j (o.map Route.u) = (sortR (liveR (c0.take (i + 1)) 0)).map Route.u := by
            rw [hso, ← hdone (fun q hq2 => by rw [List.getElem?_eq_none (by omega)] at hq2; cases hq2)]; simp [Route.u]
          have hlen2 : j + 1 + (o.length - j) = (sortR (liveR (c0.take (i + 1)) 0)).length := by rw [hso, insL_len]; omega
          exact ih (i + 1, true) _ (by dsimp only; omega) ⟨by dsimp only; omega, (fun h => by cases h), (by and_intros <;> first | omega | rfl | (simp only [↓xP,xQ,xR,xS,flatR,reduceLT,Nat.reduceBEq,reduceAdd,reduceSub,h1,hbx,hw,swid,hrow,hlen2] <;> first | done | rfl | omega))⟩
  · obtain rfl : i = c0.length := by omega
    rw [List.take_length] at h3 ho
    cases b <;> simp only [swid] at h3 ho <;> simp only [↓xP,xQ,xR,xS,flatR,reduceLT,Nat.reduceBEq,reduceAdd,reduceSub,h1,hbx,h3,ho,h4,hi,routesRet,routesOf,List.length_map]
def noPlan (p : Plan) : Bool := decide (p.kind = 0) && decide (p.first = 0) && decide (p.second = 0) && decide (p.key = []) && decide (p.from_ = 0) && decide (p.to_ = 0) && decide (p.step = 0)
def workOk (p : Plan) (n : Nat) : Bool := noPlan p || (planValid p && decide (p.first < n) && decide (p.second < n))
theorem l27Work_ok (k f s : Int) (key : Str) (a b c : Int) (n : Nat) : EE F 116 [.ag [.u (.int .i64 k), .u (.int .i64 f), .u (.int .i64 s), .u (.str key), .u (.int .i64 a), .u (.int .i64 b), .u (.int .i64 c)], I n] [] = ok1 (B (workOk ⟨k, f, s, key, a, b, c⟩ n)) := by
  rw [R116, b116]
  simp only [↓xP,xQ,xR,xS,flatR,reduceLT,Nat.reduceBEq,reduceAdd,reduceSub,planValid_spec]
  repeat' (refine sel_split (fun h => ?_) (fun h => ?_))
  all_goals first | (simp_all [workOk, noPlan]; done) | (simp_all [workOk, noPlan]; grind) | skip
theorem equalB_ok (l m : List Bool) (hn : l.length ≤ 1048576) : EE F 125 [L 1 (l.map bU), L 1 (m.map bU)] [] = ok1 (B (decide (l = m))) := by
  rw [R125, b125]
  by_cases hl : l.length = m.length
  · have hl' : ((l.length : Int) = (m.length : Int)) = True := by simp; omega
    simp only [↓xP,xQ,xR,xS,flatR,reduceLT,Nat.reduceBEq,reduceAdd,reduceSub,List.length_map,ne_eq,hl',not_true_eq_false]
    refine (loop_ind (fun (i : Nat) st => st.s 0 = DU (.sl 1 (l.map bU)) ∧ st.s 1 = DU (.sl 1 (m.map bU)) ∧ st.s 11 = DU (.sl 1 (l.map bU)) ∧ st.s 12 = DI l.length ∧ st.s 13 = DI i) (fun i => l.length - i) (fun i => ok1 (B (decide (l.drop i = m.drop i)))) ?_ 0 (by and_intros <;> first | omega | rfl | (simp only [↓xP,xQ,xR,xS,flatR,reduceLT,Nat.reduceBEq,reduceAdd,reduceSub] <;> first | done | rfl | omega))).trans (by simp)
    rintro i st ⟨h0, h1, h11, h12, h13⟩ ih
    by_cases hi : i < l.length
    · obtain ⟨x, hx⟩ : ∃ x, l[i]? = some x := ⟨_, List.getElem?_eq_getElem hi⟩
      obtain ⟨y, hy⟩ : ∃ x, m[i]? = some x := ⟨_, List.getElem?_eq_getElem (by omega)⟩
      have hi2 : i < m.length := by omega
      have hw := w_succ (i := i) (by omega)
      rw [drop_at hx, drop_at hy]
      by_cases e : x = y
      · subst e
        simp only [↓xP,xQ,xR,xS,flatR,reduceLT,Nat.reduceBEq,reduceAdd,reduceSub,rdx2,h0,h1,h11,h12,h13,hi,hi2,hx,hy,hw,bU]
        rw [ih (i + 1) _ (by omega) (by and_intros <;> first | omega | rfl | (simp only [↓xP,xQ,xR,xS,flatR,reduceLT,Nat.reduceBEq,reduceAdd,reduceSub,h0,h1,h11,h12] <;> first | done | rfl | omega))]
        simp
      · have hb : (x == y) = false := by simpa using e
        simp only [↓xP,xQ,xR,xS,flatR,reduceLT,Nat.reduceBEq,reduceAdd,reduceSub,rdx2,h0,h1,h11,h12,h13,hi,hi2,hx,hy,hw,bU,hb]
        simp [e]
    · simp only [↓xP,xQ,xR,xS,flatR,reduceLT,Nat.reduceBEq,reduceAdd,reduceSub,h0,h1,h11,h12,h13,hi]
      rw [List.drop_of_length_le (by omega), List.drop_of_length_le (by omega)]; rfl
  · have hl' : ((l.length : Int) = (m.length : Int)) = False := by simp; omega
    have : ¬ l = m := fun e => hl (by rw [e])
    simp only [↓xP,xQ,xR,xS,flatR,reduceLT,Nat.reduceBEq,reduceAdd,reduceSub,List.length_map,ne_eq,hl',not_false_eq_true]
    simp [this]
def freeCaller (c : Caller) : Bool := decide (c.cache.length = 0) && decide (c.seq = 0)
def upOf (l : List Shard) : List Bool := match l with
  | [] => []
  | s :: _ => s.group.up
def firstFree (l : List Caller) : Bool := match l with
  | [] => false
  | c :: _ => freeCaller c
def shardOk (u : List Bool) (s : Shard) : Bool := chainValid s.group && decide (s.group.up = u)
def sizesOk (x : Cluster) : Bool := decide (1 ≤ x.shards.length) && decide (x.shards.length ≤ 8) && decide (x.clients.length = 4) && decide (x.results.length ≤ 40)
def endsOk (x : Cluster) : Bool := routesValid (routesOf x.shards) && firstFree x.clients && inR x.turn 0 999 && inR x.clock 0 200
def clusterValid (x : Cluster) : Bool := sizesOk x && x.shards.all (shardOk (upOf x.shards)) && x.clients.all callerValid && x.results.all resultValid && workOk x.work x.shards.length && endsOk x
theorem noCaller_free {c : Caller} (h : callerValid c = true) : (decide (c.cache.length = 0) && decide (c.seq = 0) && !c.busy && noCommand c.wish && decide (c.called = 0)) = freeCaller c := by
  obtain ⟨l, s, bz, w, cd⟩ := c
  simp only [callerValid,Bool.and_eq_true] at h
  obtain ⟨_, h⟩ := h
  cases bz
  · simp only [Bool.false_eq_true,if_false,Bool.and_eq_true] at h
    simp [freeCaller, h.1, h.2]
  · simp only [if_true,Bool.and_eq_true,decide_eq_true_eq] at h
    have : ¬ s = 0 := by have := h.1.1; omega
    simp [freeCaller, this]
theorem ends_tree (np pv a b rv ff t0 t9 ck : Bool) : sel (!np) (sel pv (sel a (sel (!b) (ok1 (B false)) (sel rv (sel ff (sel t0 (sel t9 (ok1 (B ck)) (ok1 (B false))) (ok1 (B false))) (ok1 (B false))) (ok1 (B false)))) (ok1 (B false))) (ok1 (B false))) (sel rv (sel ff (sel t0 (sel t9 (ok1 (B ck)) (ok1 (B false))) (ok1 (B false))) (ok1 (B false))) (ok1 (B false))) = ok1 (B ((np || (pv && a && b)) && (rv && ff && (t0 && t9) && ck))) := by
  cases np <;> cases pv <;> cases a <;> cases b <;> cases rv <;> cases ff <;> cases t0 <;> cases t9 <;> cases ck <;> rfl
theorem clusterValid_impl (c0 : List Shard) (c1 : List Caller) (c2 : List Result) (c3 c4 c5 : Int) (c6 : Str) (c7 c8 c9 c10 c11 : Int) (hs : Cluster.Small ⟨c0, c1, c2, ⟨c3, c4, c5, c6, c7, c8, c9⟩, c10, c11⟩) : EE F 71 [.ag [.u (.sl 14 (c0.map Shard.u)), .u (.sl 8 (c1.map Caller.u)), .u (.sl 9 (c2.map Result.u)), .u (.int .i64 c3), .u (.int .i64 c4), .u (.int .i64 c5), .u (.str c6), .u (.int .i64 c7), .u (.int .i64 c8), .u (.int .i64 c9), .u (.int .i64 c10), .u (.int .i64 c11)]] [] = ok1 (B (clusterValid ⟨c0, c1, c2, ⟨c3, c4, c5, c6, c7, c8, c9⟩, c10, c11⟩)) := by
  obtain ⟨hsh, hcl, hrs, hwk, _⟩ := hs
  have hn0 : c0.length ≤ 1048576 := hsh.1
  have hn1 : c1.length ≤ 1048576 := hcl.1
  have hn2 : c2.length ≤ 1048576 := hrs.1
  rw [R71, b71]
  simp only [↓xP,xQ,xR,xS,flatR,reduceLT,Nat.reduceBEq,reduceAdd,reduceSub,List.length_map,ne_eq]
  refine sel_split (fun h => ?_) (fun g1 => ?_)
  · have : ¬ 1 ≤ c0.length := by simp at h; omega
    simp [clusterValid, sizesOk, this]
  refine sel_split (fun h => ?_) (fun g2 => ?_)
  · have : ¬ c0.length ≤ 8 := by simp at h; omega
    simp [clusterValid, sizesOk, this]
  refine sel_split (fun h => ?_) (fun g3 => ?_)
  · have : ¬ c1.length = 4 := by simp at h; omega
    simp [clusterValid, sizesOk, this]
  refine sel_split (fun h => ?_) (fun g4 => ?_)
  · have : ¬ c2.length ≤ 40 := by simp at h; omega
    simp [clusterValid, sizesOk, this]
  have g1' : 1 ≤ c0.length := by simp at g1; omega
  have g2' : c0.length ≤ 8 := by simp at g2; omega
  have g3' : c1.length = 4 := by simp at g3; omega
  have g4' : c2.length ≤ 40 := by simp at g4; omega
  have hsz : sizesOk ⟨c0, c1, c2, ⟨c3, c4, c5, c6, c7, c8, c9⟩, c10, c11⟩ = true := by simp [sizesOk, g1', g2', g3', g4']
  obtain ⟨fs, hf0⟩ : ∃ x, c0[0]? = some x := ⟨_, List.getElem?_eq_getElem (by omega)⟩
  have hup : upOf c0 = fs.group.up := by
    cases c0 with
    | nil => simp at hf0
    | cons a l => simp at hf0; subst hf0; rfl
  obtain ⟨flive, ⟨⟨⟨flo, fup⟩, fprs, fkn, fsld, fcut⟩, ⟨fep, fms, ffr⟩, fnds, fups, fbag, fans⟩⟩ := fs
  simp only at hup
  have hcv : clusterValid ⟨c0, c1, c2, ⟨c3, c4, c5, c6, c7, c8, c9⟩, c10, c11⟩ = ((c0.drop 0).all (shardOk fups) && (c1.all callerValid && (c2.all resultValid && (workOk ⟨c3, c4, c5, c6, c7, c8, c9⟩ c0.length && endsOk ⟨c0, c1, c2, ⟨c3, c4, c5, c6, c7, c8, c9⟩, c10, c11⟩)))) := by
    simp only [clusterValid,hsz,hup,Bool.true_and,Bool.and_assoc,List.drop_zero]
  rw [hcv]
  refine loop_ind (fun (i : Nat) st => st.s 1 = .t (.sc (.ptr (.loc 1 0) 0 0)) ∧ st.o (.loc 1 0) = some (.box [.u (.sl 14 (c0.map Shard.u)), .u (.sl 8 (c1.map Caller.u)), .u (.sl 9 (c2.map Result.u)), .u (.int .i64 c3), .u (.int .i64 c4), .u (.int .i64 c5), .u (.str c6), .u (.int .i64 c7), .u (.int .i64 c8), .u (.int .i64 c9), .u (.int .i64 c10), .u (.int .i64 c11)]) ∧ st.s 32 = DU (.sl 14 (c0.map Shard.u)) ∧ st.s 33 = DI c0.length ∧ st.s 34 = DI i) (fun i => c0.length - i) (fun i => ok1 (B ((c0.drop i).all (shardOk fups) && (c1.all callerValid && (c2.all resultValid && (workOk ⟨c3, c4, c5, c6, c7, c8, c9⟩ c0.length && endsOk ⟨c0, c1, c2, ⟨c3, c4, c5, c6, c7, c8, c9⟩, c10, c11⟩)))))) ?_ 0 (by and_intros <;> first | omega | rfl | (simp only [↓xP,xQ,xR,xS,flatR,reduceLT,Nat.reduceBEq,reduceAdd,reduceSub] <;> first | done | rfl | omega))
  rintro i st ⟨h1, hb, h32, h33, h34⟩ ih
  by_cases hi : i < c0.length
  · obtain ⟨⟨live, ⟨⟨⟨lo, up⟩, prs, kn, sld, cut⟩, ⟨ep, ms, fr⟩, nds, ups, bag, ans⟩⟩, hx⟩ : ∃ x, c0[i]? = some x := ⟨_, List.getElem?_eq_getElem hi⟩
    have hw := w_succ (i := i) (by omega)
    have hsx := hsh.2 _ (List.mem_of_getElem? hx)
    have hch := chainValid_impl lo up prs kn sld cut ep ms fr nds ups bag ans hsx.1
    have heq := equalB_ok ups fups hsx.1.2.2.2.1.1
    rw [drop_at hx, List.all_cons, shardOk]
    cases q1 : chainValid ⟨⟨⟨lo, up⟩, prs, kn, sld, cut⟩, ⟨ep, ms, fr⟩, nds, ups, bag, ans⟩
    · simp only [↓xP,xQ,xR,xS,flatR,reduceLT,Nat.reduceBEq,reduceAdd,reduceSub,rdx2,h1,hb,h32,h33,h34,hi,hx,hw,Shard.u,hch,q1]
      try simp
    · cases q2 : decide (ups = fups)
      · simp only [↓xP,xQ,xR,xS,flatR,reduceLT,Nat.reduceBEq,reduceAdd,reduceSub,rdx2,h1,hb,h32,h33,h34,hi,hx,hf0,hw,Shard.u,hch,q1,heq,q2]
        try simp
      · simp only [↓xP,xQ,xR,xS,flatR,reduceLT,Nat.reduceBEq,reduceAdd,reduceSub,rdx2,h1,hb,h32,h33,h34,hi,hx,hf0,hw,Shard.u,hch,q1,heq,q2]
        rw [ih (i + 1) _ (by omega) (by and_intros <;> first | omega | rfl | (simp only [↓xP,xQ,xR,xS,flatR,reduceLT,Nat.reduceBEq,reduceAdd,reduceSub,h1,hb,h32,h33,hw] <;> first | done | rfl | omega))]
        try simp
  simp only [↓xP,xQ,xR,xS,flatR,reduceLT,Nat.reduceBEq,reduceAdd,reduceSub,h1,hb,h32,h33,h34,hi]
  rw [List.drop_of_length_le (by omega), List.all_nil, Bool.true_and]
  refine loop_ind (fun (i : Nat) st => st.s 1 = .t (.sc (.ptr (.loc 1 0) 0 0)) ∧ st.o (.loc 1 0) = some (.box [.u (.sl 14 (c0.map Shard.u)), .u (.sl 8 (c1.map Caller.u)), .u (.sl 9 (c2.map Result.u)), .u (.int .i64 c3), .u (.int .i64 c4), .u (.int .i64 c5), .u (.str c6), .u (.int .i64 c7), .u (.int .i64 c8), .u (.int .i64 c9), .u (.int .i64 c10), .u (.int .i64 c11)]) ∧ st.s 57 = DU (.sl 8 (c1.map Caller.u)) ∧ st.s 58 = DI c1.length ∧ st.s 59 = DI i ∧ (∀ c, c ∈ c1.take i → callerValid c = true)) (fun i => c1.length - i) (fun i => ok1 (B ((c1.drop i).all callerValid && (c2.all resultValid && (workOk ⟨c3, c4, c5, c6, c7, c8, c9⟩ c0.length && endsOk ⟨c0, c1, c2, ⟨c3, c4, c5, c6, c7, c8, c9⟩, c10, c11⟩))))) ?_ 0 ⟨(by and_intros <;> first | omega | rfl | (simp only [↓xP,xQ,xR,xS,flatR,reduceLT,Nat.reduceBEq,reduceAdd,reduceSub,h1] <;> first | done | rfl | omega)), (by and_intros <;> first | omega | rfl | (simp only [↓xP,xQ,xR,xS,flatR,reduceLT,Nat.reduceBEq,reduceAdd,reduceSub,hb] <;> first | done | rfl | omega)), (by and_intros <;> first | omega | rfl | (simp only [↓xP,xQ,xR,xS,flatR,reduceLT,Nat.reduceBEq,reduceAdd,reduceSub,h1,hb] <;> first | done | rfl | omega)), (by and_intros <;> first | omega | rfl | (simp only [↓xP,xQ,xR,xS,flatR,reduceLT,Nat.reduceBEq,reduceAdd,reduceSub,h1,hb] <;> first | done | rfl | omega)), (by and_intros <;> first | omega | rfl | (simp only [↓xP,xQ,xR,xS,flatR,reduceLT,Nat.reduceBEq,reduceAdd,reduceSub,h1,hb] <;> first | done | rfl | omega)), by simp⟩
  clear h1 hb h32 h33 h34 hi ih
  rintro i st ⟨h1, hb, h32, h33, h34, hall⟩ ih
  by_cases hi : i < c1.length
  · obtain ⟨⟨cch, csq, cbz, ⟨ck, ckey, cv, co⟩, ccd⟩, hx⟩ : ∃ x, c1[i]? = some x := ⟨_, List.getElem?_eq_getElem hi⟩
    have hw := w_succ (i := i) (by omega)
    have hsx := hcl.2 _ (List.mem_of_getElem? hx)
    have hch := callerValid_impl cch csq cbz ck ckey cv co ccd hsx.1.1
    simp only [↓xP,xQ,xR,xS,flatR,reduceLT,Nat.reduceBEq,reduceAdd,reduceSub,h1,hb,h32,h33,h34,hi,hx,hw,Caller.u,hch]
    rw [drop_at hx, List.all_cons]
    refine sel_split (fun h => ?_) (fun q1 => ?_)
    · rw [Bool.not_eq_true'] at h; simp [h]
    rw [Bool.not_eq_false'] at q1
    have hall2 : ∀ c, c ∈ c1.take (i + 1) → callerValid c = true := by
      intro c hc
      rw [List.take_add_one, hx] at hc
      rcases List.mem_append.1 hc with hc | hc
      · exact hall c hc
      · simp at hc; subst hc; exact q1
    rw [ih (i + 1) _ (by omega) ⟨(by and_intros <;> first | omega | rfl | (simp only [↓xP,xQ,xR,xS,flatR,reduceLT,Nat.reduceBEq,reduceAdd,reduceSub,h1] <;> first | done | rfl | omega)), (by and_intros <;> first | omega | rfl | (simp only [↓xP,xQ,xR,xS,flatR,reduceLT,Nat.reduceBEq,reduceAdd,reduceSub,hb] <;> first | done | rfl | omega)), (by and_intros <;> first | omega | rfl | (simp only [↓xP,xQ,xR,xS,flatR,reduceLT,Nat.reduceBEq,reduceAdd,reduceSub,h32] <;> first | done | rfl | omega)), (by and_intros <;> first | omega | rfl | (simp only [↓xP,xQ,xR,xS,flatR,reduceLT,Nat.reduceBEq,reduceAdd,reduceSub,h33] <;> first | done | rfl | omega)), (by and_intros <;> first | omega | rfl | (simp only [↓xP,xQ,xR,xS,flatR,reduceLT,Nat.reduceBEq,reduceAdd,reduceSub,hw] <;> first | done | rfl | omega)), hall2⟩]
    simp [q1]
  simp only [↓xP,xQ,xR,xS,flatR,reduceLT,Nat.reduceBEq,reduceAdd,reduceSub,h1,hb,h32,h33,h34,hi]
  rw [List.drop_of_length_le (by omega), List.all_nil, Bool.true_and]
  have hall4 : ∀ c, c ∈ c1 → callerValid c = true := by rw [List.take_of_length_le (by omega)] at hall; exact hall
  refine loop_ind (fun (i : Nat) st => st.s 1 = .t (.sc (.ptr (.loc 1 0) 0 0)) ∧ st.o (.loc 1 0) = some (.box [.u (.sl 14 (c0.map Shard.u)), .u (.sl 8 (c1.map Caller.u)), .u (.sl 9 (c2.map Result.u)), .u (.int .i64 c3), .u (.int .i64 c4), .u (.int .i64 c5), .u (.str c6), .u (.int .i64 c7), .u (.int .i64 c8), .u (.int .i64 c9), .u (.int .i64 c10), .u (.int .i64 c11)]) ∧ st.s 68 = DU (.sl 9 (c2.map Result.u)) ∧ st.s 69 = DI c2.length ∧ st.s 70 = DI i) (fun i => c2.length - i) (fun i => ok1 (B ((c2.drop i).all resultValid && (workOk ⟨c3, c4, c5, c6, c7, c8, c9⟩ c0.length && endsOk ⟨c0, c1, c2, ⟨c3, c4, c5, c6, c7, c8, c9⟩, c10, c11⟩)))) ?_ 0 (by and_intros <;> first | omega | rfl | (simp only [↓xP,xQ,xR,xS,flatR,reduceLT,Nat.reduceBEq,reduceAdd,reduceSub,h1,hb] <;> first | done | rfl | omega))
  clear h1 hb h32 h33 h34 hi ih hall
  rintro i st ⟨h1, hb, h32, h33, h34⟩ ih
  by_cases hi : i < c2.length
  · obtain ⟨⟨rc, rs, ⟨rk, rkey, rv, ro⟩, rr, rcd, rrt⟩, hx⟩ : ∃ x, c2[i]? = some x := ⟨_, List.getElem?_eq_getElem hi⟩
    have hw := w_succ (i := i) (by omega)
    simp only [↓xP,xQ,xR,xS,flatR,reduceLT,Nat.reduceBEq,reduceAdd,reduceSub,h1,hb,h32,h33,h34,hi,hx,hw,Result.u,resultValid_impl]
    rw [drop_at hx, List.all_cons]
    refine sel_split (fun h => ?_) (fun q1 => ?_)
    · rw [Bool.not_eq_true'] at h; simp [h]
    rw [Bool.not_eq_false'] at q1
    rw [ih (i + 1) _ (by omega) (by and_intros <;> first | omega | rfl | (simp only [↓xP,xQ,xR,xS,flatR,reduceLT,Nat.reduceBEq,reduceAdd,reduceSub,h1,hb,h32,h33] <;> first | done | rfl | omega))]
    simp [q1]
  simp only [↓xP,xQ,xR,xS,flatR,reduceLT,Nat.reduceBEq,reduceAdd,reduceSub,h1,hb,h32,h33,h34,hi]
  rw [List.drop_of_length_le (by omega), List.all_nil, Bool.true_and]
  obtain ⟨⟨cch, csq, cbz, ⟨ck, ckey, cv, co⟩, ccd⟩, hc0⟩ : ∃ x, c1[0]? = some x := ⟨_, List.getElem?_eq_getElem (by omega)⟩
  have hq := hall4 _ (List.mem_of_getElem? hc0)
  have hnc := noCaller_ok cch csq cbz ck ckey cv co ccd
  have hfree := noCaller_free hq
  have hff : firstFree c1 = freeCaller ⟨cch, csq, cbz, ⟨ck, ckey, cv, co⟩, ccd⟩ := by
    cases c1 with
    | nil => simp at hc0
    | cons a l => simp at hc0; subst hc0; rfl
  simp only at hfree
  rw [hfree, ← hff] at hnc
  have hlr := liveRoutes_ok c0 c1 c2 c3 c4 c5 c6 c7 c8 c9 c10 c11 g2'
  simp only [routesRet] at hlr
  have hrl : (routesOf c0).length ≤ 1048576 := by
    have := sortR_len (liveR c0 0)
    have := liveR_len c0 0
    simp only [routesOf]; omega
  have hrv := routesValid_impl (routesOf c0) hrl
  have htk : List.take (routesOf c0).length (List.map Route.u (routesOf c0)) = List.map Route.u (routesOf c0) := List.take_of_length_le (by simp)
  simp only [↓xP,xQ,xR,xS,flatR,reduceLT,Nat.reduceBEq,reduceAdd,reduceSub,h1,hb,hc0,Caller.u,planValid_impl,hlr,hrv,htk,Nat.le_refl,List.length_map,hnc,timeValid_ok]
  have hnp : (decide (c3 = 0) && (decide (c4 = 0) && (decide (c5 = 0) && (decide (c6 = []) && (decide (c7 = 0) && (decide (c8 = 0) && decide (c9 = 0))))))) = noPlan ⟨c3, c4, c5, c6, c7, c8, c9⟩ := by simp only [noPlan,Bool.and_assoc]
  rw [hnp]
  refine (ends_tree (noPlan ⟨c3, c4, c5, c6, c7, c8, c9⟩) (planValid ⟨c3, c4, c5, c6, c7, c8, c9⟩) (decide (c4 < (c0.length : Int))) (decide (c5 < (c0.length : Int))) (routesValid (routesOf c0)) (firstFree c1) (decide (0 ≤ c10)) (decide (c10 ≤ 999)) (inR c11 0 200)).trans ?_
  rfl
theorem chainValid_up {c : Chain} (h : chainValid c = true) : c.up.length = 5 := by
  simp only [chainValid,Bool.and_eq_true,decide_eq_true_eq] at h
  exact h.1.1.1.1.2
def freeAt (l : List Caller) (i : Nat) : Bool := if i = 0 then firstFree l else true
theorem clusterValid_spec (c0 : List Shard) (c1 : List Caller) (c2 : List Result) (c3 c4 c5 : Int) (c6 : Str) (c7 c8 c9 c10 c11 : Int) (hs : Cluster.Small ⟨c0, c1, c2, ⟨c3, c4, c5, c6, c7, c8, c9⟩, c10, c11⟩) : EE F 65 [.ag [.u (.sl 14 (c0.map Shard.u)), .u (.sl 8 (c1.map Caller.u)), .u (.sl 9 (c2.map Result.u)), .u (.int .i64 c3), .u (.int .i64 c4), .u (.int .i64 c5), .u (.str c6), .u (.int .i64 c7), .u (.int .i64 c8), .u (.int .i64 c9), .u (.int .i64 c10), .u (.int .i64 c11)]] [] = ok1 (B (clusterValid ⟨c0, c1, c2, ⟨c3, c4, c5, c6, c7, c8, c9⟩, c10, c11⟩)) := by
  obtain ⟨hsh, hcl, hrs, hwk, _⟩ := hs
  have hn0 : c0.length ≤ 1048576 := hsh.1
  have hn1 : c1.length ≤ 1048576 := hcl.1
  have hn2 : c2.length ≤ 1048576 := hrs.1
  rw [R65, b65]
  simp only [↓xP,xQ,xR,xS,flatR,reduceLT,Nat.reduceBEq,reduceAdd,reduceSub,List.length_map,ne_eq,l1In_ok,l27Work_ok]
  refine sel_split (fun h => ?_) (fun g1 => ?_)
  · have : ¬ (1 ≤ c0.length ∧ c0.length ≤ 8) := by simp [inR] at h; omega
    have : sizesOk ⟨c0, c1, c2, ⟨c3, c4, c5, c6, c7, c8, c9⟩, c10, c11⟩ = false := by
      by_cases e1 : 1 ≤ c0.length
      · have e2 : ¬ c0.length ≤ 8 := fun e2 => this ⟨e1, e2⟩
        simp [sizesOk, e2]
      · simp [sizesOk, e1]
    simp [clusterValid, this]
  refine sel_split (fun h => ?_) (fun g3 => ?_)
  · have : ¬ c1.length = 4 := by simp at h; omega
    simp [clusterValid, sizesOk, this]
  refine sel_split (fun h => ?_) (fun g4 => ?_)
  · have : ¬ c2.length ≤ 40 := by simp at h; omega
    simp [clusterValid, sizesOk, this]
  refine sel_split (fun h => ?_) (fun g5 => ?_)
  · rw [Bool.not_eq_true'] at h; simp [clusterValid, h]
  refine sel_split (fun h => ?_) (fun g6 => ?_)
  · rw [Bool.not_eq_true'] at h; simp [clusterValid, endsOk, h]
  refine sel_split (fun h => ?_) (fun g7 => ?_)
  · rw [Bool.not_eq_true'] at h; simp [clusterValid, endsOk, h]
  rw [Bool.not_eq_false'] at g1 g5 g6 g7
  have g12 : 1 ≤ c0.length ∧ c0.length ≤ 8 := by simp [inR] at g1; omega
  have g3' : c1.length = 4 := by simp at g3; omega
  have g4' : c2.length ≤ 40 := by simp at g4; omega
  have hsz : sizesOk ⟨c0, c1, c2, ⟨c3, c4, c5, c6, c7, c8, c9⟩, c10, c11⟩ = true := by simp [sizesOk, g12.1, g12.2, g3', g4']
  obtain ⟨fs, hf0⟩ : ∃ x, c0[0]? = some x := ⟨_, List.getElem?_eq_getElem (by omega)⟩
  have hup : upOf c0 = fs.group.up := by
    cases c0 with
    | nil => simp at hf0
    | cons a l => simp at hf0; subst hf0; rfl
  obtain ⟨flive, ⟨⟨⟨flo, fup⟩, fprs, fkn, fsld, fcut⟩, ⟨fep, fms, ffr⟩, fnds, fups, fbag, fans⟩⟩ := fs
  simp only at hup
  have hcv : clusterValid ⟨c0, c1, c2, ⟨c3, c4, c5, c6, c7, c8, c9⟩, c10, c11⟩ = ((c0.drop 0).all (shardOk fups) && (c1.all callerValid && firstFree c1 && (c2.all resultValid && routesValid (routesOf c0)))) := by
    simp only [clusterValid,hsz,hup,endsOk,g5,g6,g7,Bool.true_and,Bool.and_true,List.drop_zero]
    cases c0.all (shardOk fups) <;> cases c1.all callerValid <;> cases c2.all resultValid <;> cases firstFree c1 <;> cases routesValid (routesOf c0) <;> rfl
  rw [hcv]
  refine loop_ind (fun (i : Nat) st => st.s 1 = .t (.sc (.ptr (.loc 1 0) 0 0)) ∧ st.o (.loc 1 0) = some (.box [.u (.sl 14 (c0.map Shard.u)), .u (.sl 8 (c1.map Caller.u)), .u (.sl 9 (c2.map Result.u)), .u (.int .i64 c3), .u (.int .i64 c4), .u (.int .i64 c5), .u (.str c6), .u (.int .i64 c7), .u (.int .i64 c8), .u (.int .i64 c9), .u (.int .i64 c10), .u (.int .i64 c11)]) ∧ st.s 3 = DI i ∧ (i = 0 ∨ fups.length = 5)) (fun i => c0.length - i) (fun i => ok1 (B ((c0.drop i).all (shardOk fups) && (c1.all callerValid && firstFree c1 && (c2.all resultValid && routesValid (routesOf c0)))))) ?_ 0 (by and_intros <;> first | omega | rfl | (simp only [↓xP,xQ,xR,xS,flatR,reduceLT,Nat.reduceBEq,reduceAdd,reduceSub] <;> first | done | rfl | omega))
  rintro i st ⟨h1, hb, h3, hf5⟩ ih
  by_cases hi : i < c0.length
  · obtain ⟨⟨live, ⟨⟨⟨lo, up⟩, prs, kn, sld, cut⟩, ⟨ep, ms, fr⟩, nds, ups, bag, ans⟩⟩, hx⟩ : ∃ x, c0[i]? = some x := ⟨_, List.getElem?_eq_getElem hi⟩
    have hw := w_succ (i := i) (by omega)
    have hsx := hsh.2 _ (List.mem_of_getElem? hx)
    have hch := chainValid_spec lo up prs kn sld cut ep ms fr nds ups bag ans hsx.1
    rw [drop_at hx, List.all_cons, shardOk]
    cases q1 : chainValid ⟨⟨⟨lo, up⟩, prs, kn, sld, cut⟩, ⟨ep, ms, fr⟩, nds, ups, bag, ans⟩
    · simp only [↓xP,xQ,xR,xS,flatR,reduceLT,Nat.reduceBEq,reduceAdd,reduceSub,rdx2,h1,hb,h3,hi,hx,hw,Shard.u,hch,q1]
      try simp
    have hu5 : ups.length = 5 := chainValid_up q1
    have hfu5 : fups.length = 5 := by
      rcases hf5 with rfl | e
      · rw [hf0] at hx; cases hx; exact hu5
      · exact e
    have hd0 : decide (ups = fups) = decide (ups.drop 0 = fups.drop 0) := by simp
    simp only [↓xP,xQ,xR,xS,flatR,reduceLT,Nat.reduceBEq,reduceAdd,reduceSub,rdx2,h1,hb,h3,hi,hx,hw,Shard.u,hch,q1]
    try rw [Bool.true_and]
    rw [hd0]
    refine loop_ind (fun (j : Nat) st => j ≤ 5 ∧ st.s 1 = .t (.sc (.ptr (.loc 1 0) 0 0)) ∧ st.o (.loc 1 0) = some (.box [.u (.sl 14 (c0.map Shard.u)), .u (.sl 8 (c1.map Caller.u)), .u (.sl 9 (c2.map Result.u)), .u (.int .i64 c3), .u (.int .i64 c4), .u (.int .i64 c5), .u (.str c6), .u (.int .i64 c7), .u (.int .i64 c8), .u (.int .i64 c9), .u (.int .i64 c10), .u (.int .i64 c11)]) ∧ st.s 3 = DI i ∧ st.s 4 = DI j) (fun j => 5 - j) (fun j => ok1 (B (decide (ups.drop j = fups.drop j) && (c0.drop (i + 1)).all (shardOk fups) && (c1.all callerValid && firstFree c1 && (c2.all resultValid && routesValid (routesOf c0)))))) ?_ 0 (by and_intros <;> first | omega | rfl | (simp only [↓xP,xQ,xR,xS,flatR,reduceLT,Nat.reduceBEq,reduceAdd,reduceSub,h1,hb,h3] <;> first | done | rfl | omega))
    clear h1 hb h3
    rintro j st ⟨hj5, h1, hb, h3, h4⟩ ih2
    by_cases hj : j < 5
    · obtain ⟨x, hxx⟩ : ∃ x, ups[j]? = some x := ⟨_, List.getElem?_eq_getElem (by omega)⟩
      obtain ⟨y, hyy⟩ : ∃ x, fups[j]? = some x := ⟨_, List.getElem?_eq_getElem (by omega)⟩
      have hw2 := w_succ (i := j) (by omega)
      have hlt : ((j : Int) < 5) = True := by simp; omega
      rw [drop_at hxx, drop_at hyy]
      by_cases e : x = y
      · subst e
        simp only [↓xP,xQ,xR,xS,flatR,reduceLT,Nat.reduceBEq,reduceAdd,reduceSub,rdx2,h1,hb,h3,h4,hi,hx,hf0,hxx,hyy,hw2,hlt,Shard.u,bU]
        rw [ih2 (j + 1) _ (by omega) (by and_intros <;> first | omega | rfl | (simp only [↓xP,xQ,xR,xS,flatR,reduceLT,Nat.reduceBEq,reduceAdd,reduceSub,h1,hb,h3,hw2] <;> first | done | rfl | omega))]
        simp
      · have hbe : (x == y) = false := by simpa using e
        simp only [↓xP,xQ,xR,xS,flatR,reduceLT,Nat.reduceBEq,reduceAdd,reduceSub,rdx2,h1,hb,h3,h4,hi,hx,hf0,hxx,hyy,hw2,hlt,Shard.u,bU,hbe]
        simp [e]
    have hlt : ((j : Int) < 5) = False := by simp; omega
    simp only [↓xP,xQ,xR,xS,flatR,reduceLT,Nat.reduceBEq,reduceAdd,reduceSub,h1,hb,h3,h4,hlt]
    rw [List.drop_of_length_le (by omega), List.drop_of_length_le (by omega)]
    rw [ih (i + 1) _ (by omega) ⟨(by and_intros <;> first | omega | rfl | (simp only [↓xP,xQ,xR,xS,flatR,reduceLT,Nat.reduceBEq,reduceAdd,reduceSub,h1] <;> first | done | rfl | omega)), (by and_intros <;> first | omega | rfl | (simp only [↓xP,xQ,xR,xS,flatR,reduceLT,Nat.reduceBEq,reduceAdd,reduceSub,hb] <;> first | done | rfl | omega)), (by and_intros <;> first | omega | rfl | (simp only [↓xP,xQ,xR,xS,flatR,reduceLT,Nat.reduceBEq,reduceAdd,reduceSub,hw] <;> first | done | rfl | omega)), .inr hfu5⟩]
    simp
  simp only [↓xP,xQ,xR,xS,flatR,reduceLT,Nat.reduceBEq,reduceAdd,reduceSub,h1,hb,h3,hi]
  rw [List.drop_of_length_le (by omega), List.all_nil, Bool.true_and]
  have hc10 : (c1.all callerValid && firstFree c1 && (c2.all resultValid && routesValid (routesOf c0))) = ((c1.drop 0).all callerValid && freeAt c1 0 && (c2.all resultValid && routesValid (routesOf c0))) := rfl
  rw [hc10]
  refine loop_ind (fun (i : Nat) st => i ≤ 4 ∧ st.s 1 = .t (.sc (.ptr (.loc 1 0) 0 0)) ∧ st.o (.loc 1 0) = some (.box [.u (.sl 14 (c0.map Shard.u)), .u (.sl 8 (c1.map Caller.u)), .u (.sl 9 (c2.map Result.u)), .u (.int .i64 c3), .u (.int .i64 c4), .u (.int .i64 c5), .u (.str c6), .u (.int .i64 c7), .u (.int .i64 c8), .u (.int .i64 c9), .u (.int .i64 c10), .u (.int .i64 c11)]) ∧ st.s 5 = DI i) (fun i => 4 - i) (fun i => ok1 (B ((c1.drop i).all callerValid && freeAt c1 i && (c2.all resultValid && routesValid (routesOf c0))))) ?_ 0 (by and_intros <;> first | omega | rfl | (simp only [↓xP,xQ,xR,xS,flatR,reduceLT,Nat.reduceBEq,reduceAdd,reduceSub,h1,hb] <;> first | done | rfl | omega))
  clear h1 hb h3 hi ih
  rintro i st ⟨hi4, h1, hb, h3⟩ ih
  by_cases hi : i < 4
  · obtain ⟨⟨cch, csq, cbz, ⟨ck, ckey, cv, co⟩, ccd⟩, hx⟩ : ∃ x, c1[i]? = some x := ⟨_, List.getElem?_eq_getElem (by omega)⟩
    have hw := w_succ (i := i) (by omega)
    have hlt : ((i : Int) < 4) = True := by simp; omega
    have hsx := hcl.2 _ (List.mem_of_getElem? hx)
    have hch := callerValid_spec cch csq cbz ck ckey cv co ccd hsx.1.1
    rw [drop_at hx, List.all_cons]
    have hnext : freeAt c1 (i + 1) = true := rfl
    by_cases e0 : i = 0
    · subst e0
      have hff : freeAt c1 0 = freeCaller ⟨cch, csq, cbz, ⟨ck, ckey, cv, co⟩, ccd⟩ := by
        cases c1 with
        | nil => simp at hx
        | cons a l => simp at hx; subst hx; rfl
      have hz : (((0 : Nat) : Int) = 0) = True := by simp
      rw [hff]
      simp only [↓xP,xQ,xR,xS,flatR,reduceLT,Nat.reduceBEq,reduceAdd,reduceSub,h1,hb,h3,hlt,hx,hw,hz,Caller.u,hch,ne_eq,List.length_map]
      refine sel_split (fun h => ?_) (fun q1 => ?_)
      · rw [Bool.not_eq_true'] at h; simp [h]
      rw [Bool.not_eq_false'] at q1
      refine sel_split (fun h => ?_) (fun q2 => ?_)
      · have : ¬ csq = 0 := by simpa using h
        simp [freeCaller, this]
      refine sel_split (fun h => ?_) (fun q3 => ?_)
      · have : ¬ cch = [] := by intro e; subst e; simp at h
        simp [freeCaller, this]
      have q2' : csq = 0 := by simpa using q2
      have q3' : cch.length = 0 := by simp at q3; simpa using q3
      rw [ih 1 _ (by omega) (by and_intros <;> first | omega | rfl | (simp only [↓xP,xQ,xR,xS,flatR,reduceLT,Nat.reduceBEq,reduceAdd,reduceSub,h1,hb] <;> first | done | rfl | omega))]
      rw [q1]; simp [freeCaller, q2', q3', freeAt]
    · have hz : ((i : Int) = 0) = False := by simp; omega
      simp only [↓xP,xQ,xR,xS,flatR,reduceLT,Nat.reduceBEq,reduceAdd,reduceSub,h1,hb,h3,hlt,hx,hw,hz,Caller.u,hch,ne_eq,List.length_map]
      refine sel_split (fun h => ?_) (fun q1 => ?_)
      · rw [Bool.not_eq_true'] at h; simp [h]
      rw [Bool.not_eq_false'] at q1
      rw [ih (i + 1) _ (by omega) (by and_intros <;> first | omega | rfl | (simp only [↓xP,xQ,xR,xS,flatR,reduceLT,Nat.reduceBEq,reduceAdd,reduceSub,h1,hb] <;> first | done | rfl | omega))]
      simp [q1, freeAt, e0]
  have hlt : ((i : Int) < 4) = False := by simp; omega
  have hfi : freeAt c1 i = true := by simp only [freeAt]; rw [if_neg (by omega)]
  simp only [↓xP,xQ,xR,xS,flatR,reduceLT,Nat.reduceBEq,reduceAdd,reduceSub,h1,hb,h3,hlt]
  rw [List.drop_of_length_le (by omega), List.all_nil, hfi, Bool.true_and, Bool.true_and]
  refine loop_ind (fun (i : Nat) st => st.s 1 = .t (.sc (.ptr (.loc 1 0) 0 0)) ∧ st.o (.loc 1 0) = some (.box [.u (.sl 14 (c0.map Shard.u)), .u (.sl 8 (c1.map Caller.u)), .u (.sl 9 (c2.map Result.u)), .u (.int .i64 c3), .u (.int .i64 c4), .u (.int .i64 c5), .u (.str c6), .u (.int .i64 c7), .u (.int .i64 c8), .u (.int .i64 c9), .u (.int .i64 c10), .u (.int .i64 c11)]) ∧ st.s 6 = DI i) (fun i => c2.length - i) (fun i => ok1 (B ((c2.drop i).all resultValid && routesValid (routesOf c0)))) ?_ 0 (by and_intros <;> first | omega | rfl | (simp only [↓xP,xQ,xR,xS,flatR,reduceLT,Nat.reduceBEq,reduceAdd,reduceSub,h1,hb] <;> first | done | rfl | omega))
  clear h1 hb h3 hi ih hlt hfi
  rintro i st ⟨h1, hb, h3⟩ ih
  by_cases hi : i < c2.length
  · obtain ⟨⟨rc, rs, ⟨rk, rkey, rv, ro⟩, rr, rcd, rrt⟩, hx⟩ : ∃ x, c2[i]? = some x := ⟨_, List.getElem?_eq_getElem hi⟩
    have hw := w_succ (i := i) (by omega)
    simp only [↓xP,xQ,xR,xS,flatR,reduceLT,Nat.reduceBEq,reduceAdd,reduceSub,h1,hb,h3,hi,hx,hw,Result.u,resultValid_spec]
    rw [drop_at hx, List.all_cons]
    refine sel_split (fun h => ?_) (fun q1 => ?_)
    · rw [Bool.not_eq_true'] at h; simp [h]
    rw [Bool.not_eq_false'] at q1
    rw [ih (i + 1) _ (by omega) (by and_intros <;> first | omega | rfl | (simp only [↓xP,xQ,xR,xS,flatR,reduceLT,Nat.reduceBEq,reduceAdd,reduceSub,h1,hb] <;> first | done | rfl | omega))]
    simp [q1]
  have hlr := l27Routes_ok c0 c1 c2 c3 c4 c5 c6 c7 c8 c9 c10 c11 g12.2
  simp only [routesRet] at hlr
  have hrl : (routesOf c0).length ≤ 1048576 := by
    have := sortR_len (liveR c0 0)
    have := liveR_len c0 0
    simp only [routesOf]; omega
  have hrv := routesValid_spec (routesOf c0) hrl
  have htk : List.take (routesOf c0).length (List.map Route.u (routesOf c0)) = List.map Route.u (routesOf c0) := List.take_of_length_le (by simp)
  simp only [↓xP,xQ,xR,xS,flatR,reduceLT,Nat.reduceBEq,reduceAdd,reduceSub,h1,hb,h3,hi,hlr,hrv,htk,Nat.le_refl,List.length_map]
  rw [List.drop_of_length_le (by omega), List.all_nil, Bool.true_and]
def holds (s : Shard) (k : Int) : Bool := s.live && decide (k ∈ s.group.conf.members)
def loadAt (l : List Shard) (k : Int) : Nat := l.countP (fun s => holds s k)
def loadsOf (l : List Shard) : List Int := (List.range 5).map (fun (k : Nat) => (loadAt l (k : Int) : Int))
theorem loadAt_step {l : List Shard} {i : Nat} {s : Shard} (h : l[i]? = some s) (k : Int) : loadAt (l.take (i + 1)) k = loadAt (l.take i) k + (if holds s k = true then 1 else 0) := by
  rw [loadAt, List.take_add_one, h, Option.toList_some, List.countP_append, List.countP_singleton]; rfl
theorem loadAt_le (l : List Shard) (k : Int) : loadAt l k ≤ l.length := List.countP_le_length
def loadsRet (l : List Shard) : Option Ret := some ⟨[.sc (.own (.par 0) 5)], [.row 1 ((loadsOf l).map iU)], []⟩
def noLoads : Option Ret := some ⟨[.sc (.own (.par 0) 0)], [.row 1 []], []⟩
theorem loads_len (l : List Shard) : (loadsOf l).length = 5 := by simp [loadsOf]
theorem loads_take {l : List Shard} {i : Nat} (h : i < 5) : ((loadsOf l).take (i + 1)).map iU = ((loadsOf l).take i).map iU ++ [[.int .i64 (loadAt l (i : Int) : Int)]] := by
  have : (loadsOf l)[i]? = some (loadAt l (i : Int) : Int) := by simp [loadsOf, h]
  rw [List.take_add_one, this]; simp [iU]
theorem nodeLoads_spec (c0 : List Shard) (c1 : List Caller) (c2 : List Result) (c3 c4 c5 : Int) (c6 : Str) (c7 c8 c9 c10 c11 : Int) (hs : Cluster.Small ⟨c0, c1, c2, ⟨c3, c4, c5, c6, c7, c8, c9⟩, c10, c11⟩) : EE F 30 [.ag [.u (.sl 14 (c0.map Shard.u)), .u (.sl 8 (c1.map Caller.u)), .u (.sl 9 (c2.map Result.u)), .u (.int .i64 c3), .u (.int .i64 c4), .u (.int .i64 c5), .u (.str c6), .u (.int .i64 c7), .u (.int .i64 c8), .u (.int .i64 c9), .u (.int .i64 c10), .u (.int .i64 c11)]] [] = if clusterValid ⟨c0, c1, c2, ⟨c3, c4, c5, c6, c7, c8, c9⟩, c10, c11⟩ = true then loadsRet c0 else noLoads := by
  have hcvs := clusterValid_spec c0 c1 c2 c3 c4 c5 c6 c7 c8 c9 c10 c11 hs
  have hsh := hs.1
  have hn0 : c0.length ≤ 1048576 := hsh.1
  rw [R30, b30]
  simp only [↓xP,xQ,xR,xS,flatR,reduceLT,Nat.reduceBEq,reduceAdd,reduceSub,hcvs]
  cases hv : clusterValid ⟨c0, c1, c2, ⟨c3, c4, c5, c6, c7, c8, c9⟩, c10, c11⟩
  · simp [sel, noLoads]
  simp only [Bool.not_true,sel,if_true]
  refine loop_ind (fun (i : Nat) st => i ≤ 5 ∧ st.s 1 = .t (.sc (.ptr (.loc 1 0) 0 0)) ∧ st.o (.loc 1 0) = some (.box [.u (.sl 14 (c0.map Shard.u)), .u (.sl 8 (c1.map Caller.u)), .u (.sl 9 (c2.map Result.u)), .u (.int .i64 c3), .u (.int .i64 c4), .u (.int .i64 c5), .u (.str c6), .u (.int .i64 c7), .u (.int .i64 c8), .u (.int .i64 c9), .u (.int .i64 c10), .u (.int .i64 c11)]) ∧ st.s 3 = .t (.sc (.own (.loc 7 0) i)) ∧ st.o (.loc 7 0) = some (.row 1 (((loadsOf c0).take i).map iU)) ∧ st.s 4 = DI i) (fun i => 5 - i) (fun _ => loadsRet c0) ?_ 0 (by and_intros <;> first | omega | rfl | (simp only [↓xP,xQ,xR,xS,flatR,reduceLT,Nat.reduceBEq,reduceAdd,reduceSub] <;> first | done | rfl | omega))
  rintro i st ⟨hi5, h1, hb, h3, ho, h4⟩ ih
  by_cases hi : i < 5
  · have hw := w_succ (i := i) (by omega)
    have hlt : ((i : Int) < 5) = True := by simp; omega
    have htk := loads_take (l := c0) hi
    have hll : (((loadsOf c0).take i).map iU).length = i := by rw [List.length_map, List.length_take, loads_len]; omega
    obtain ⟨m1, m2⟩ := small_max (n := i + 1) (k := 8) (by omega) (by omega)
    simp only [↓xP,xQ,xR,xS,flatR,reduceLT,Nat.reduceBEq,reduceAdd,reduceSub,h1,hb,h3,ho,h4,hlt]
    refine loop_ind (fun (j : Nat) st => j ≤ c0.length ∧ st.s 1 = .t (.sc (.ptr (.loc 1 0) 0 0)) ∧ st.o (.loc 1 0) = some (.box [.u (.sl 14 (c0.map Shard.u)), .u (.sl 8 (c1.map Caller.u)), .u (.sl 9 (c2.map Result.u)), .u (.int .i64 c3), .u (.int .i64 c4), .u (.int .i64 c5), .u (.str c6), .u (.int .i64 c7), .u (.int .i64 c8), .u (.int .i64 c9), .u (.int .i64 c10), .u (.int .i64 c11)]) ∧ st.s 3 = .t (.sc (.own (.loc 7 0) i)) ∧ st.o (.loc 7 0) = some (.row 1 (((loadsOf c0).take i).map iU)) ∧ st.s 4 = DI i ∧ st.s 5 = DI (loadAt (c0.take j) (i : Int) : Nat) ∧ st.s 6 = DI j) (fun j => c0.length - j) (fun _ => loadsRet c0) ?_ 0 (by and_intros <;> first | omega | rfl | (simp only [↓xP,xQ,xR,xS,flatR,reduceLT,Nat.reduceBEq,reduceAdd,reduceSub,h1,hb,h3,ho,h4] <;> first | done | rfl | omega))
    clear h1 hb h3 ho h4
    rintro j st ⟨hjl, h1, hb, h3, ho, h4, h5, h6⟩ ih2
    by_cases hj : j < c0.length
    · obtain ⟨⟨live, ⟨⟨⟨lo, up⟩, prs, kn, sld, cut⟩, ⟨ep, ms, fr⟩, nds, ups, bag, ans⟩⟩, hx⟩ : ∃ x, c0[j]? = some x := ⟨_, List.getElem?_eq_getElem hj⟩
      have hw2 := w_succ (i := j) (by omega)
      have hsx := hsh.2 _ (List.mem_of_getElem? hx)
      have hstep := loadAt_step hx (i : Int)
      have hle := loadAt_le (c0.take j) (i : Int)
      have hlen : (c0.take j).length ≤ 1048576 := by rw [List.length_take]; omega
      have hw3 := w_succ (i := loadAt (c0.take j) (i : Int)) (by omega)
      have hix := l16Index_ok ep ms fr (i : Int) (by have := hsx.1.2.1.1.1; simp only at this; omega)
      have hge : decide (0 ≤ idxI ms (i : Int)) = decide ((i : Int) ∈ ms) := by rw [decide_eq_decide]; exact idxI_ge
      simp only [↓xP,xQ,xR,xS,flatR,reduceLT,Nat.reduceBEq,reduceAdd,reduceSub,h1,hb,h3,ho,h4,h5,h6,hj,hx,hw2,hw3,Shard.u,hix,ge_iff_le]
      refine sel_split (fun g1 => ?_) (fun g1 => ?_)
      · refine sel_split (fun g2 => ?_) (fun g2 => ?_)
        · have e : loadAt (c0.take j) (i : Int) + 1 = loadAt (c0.take (j + 1)) (i : Int) := by
            rw [hstep, if_pos (by rw [hge] at g2; simp only [holds,g1,g2,Bool.and_self])]
          exact ih2 (j + 1) _ (by omega) (by and_intros <;> first | omega | rfl | (simp only [↓xP,xQ,xR,xS,flatR,reduceLT,Nat.reduceBEq,reduceAdd,reduceSub,h1,hb,h3,ho,h4,e] <;> first | done | rfl | omega))
        · have e : loadAt (c0.take j) (i : Int) = loadAt (c0.take (j + 1)) (i : Int) := by
            rw [hstep, if_neg (by rw [hge] at g2; simp only [holds,g2,Bool.and_false]; simp)]; rfl
          exact ih2 (j + 1) _ (by omega) (by and_intros <;> first | omega | rfl | (simp only [↓xP,xQ,xR,xS,flatR,reduceLT,Nat.reduceBEq,reduceAdd,reduceSub,h1,hb,h3,ho,h4,h5,← e] <;> first | done | rfl | omega))
      · have e : loadAt (c0.take j) (i : Int) = loadAt (c0.take (j + 1)) (i : Int) := by
          rw [hstep, if_neg (by simp only [holds,g1,Bool.false_and]; simp)]; rfl
        exact ih2 (j + 1) _ (by omega) (by and_intros <;> first | omega | rfl | (simp only [↓xP,xQ,xR,xS,flatR,reduceLT,Nat.reduceBEq,reduceAdd,reduceSub,h1,hb,h3,ho,h4,h5,← e] <;> first | done | rfl | omega))
    · have hall : c0.take j = c0 := List.take_of_length_le (by omega)
      rw [hall] at h5
      simp only [↓xP,xQ,xR,xS,flatR,reduceLT,Nat.reduceBEq,reduceAdd,reduceSub,h1,hb,h3,ho,h4,h5,h6,hj,m1,m2,hll,hw]
      exact ih (i + 1) _ (by omega) (by and_intros <;> first | omega | rfl | (simp only [↓xP,xQ,xR,xS,flatR,reduceLT,Nat.reduceBEq,reduceAdd,reduceSub,h1,hb,← htk] <;> first | done | rfl | omega))
  · have hlt : ((i : Int) < 5) = False := by simp; omega
    obtain rfl : i = 5 := by omega
    have hta : (loadsOf c0).take 5 = loadsOf c0 := List.take_of_length_le (by rw [loads_len]; omega)
    rw [hta] at ho
    simp only [↓xP,xQ,xR,xS,flatR,reduceLT,Nat.reduceBEq,reduceAdd,reduceSub,h1,hb,h3,ho,h4,hlt,List.length_map,loads_len,loadsRet]
def nilLoads : Option Ret := some ⟨[.sc (.u .nil)], [], []⟩
def rowF (f : Nat → Nat) : List (List U) := (List.range 5).map (fun (k : Nat) => [.int .i64 (f k : Int)])
theorem rowF_get {f : Nat → Nat} {m : Nat} (h : m < 5) : (rowF f)[m]? = some [.int .i64 (f m : Int)] := by simp [rowF, h]
theorem rowF_len (f : Nat → Nat) : (rowF f).length = 5 := by simp [rowF]
theorem rowF_set {f g : Nat → Nat} {m : Nat} (h : m < 5) (hg : ∀ k, k < 5 → g k = if k = m then f m + 1 else f k) : (rowF f).set m [.int .i64 ((f m + 1 : Nat) : Int)] = rowF g := by
  have e0 := hg 0 (by omega); have e1 := hg 1 (by omega); have e2 := hg 2 (by omega); have e3 := hg 3 (by omega); have e4 := hg 4 (by omega)
  have hr : List.range 5 = [0, 1, 2, 3, 4] := by decide
  simp only [rowF,hr,List.map,e0,e1,e2,e3,e4]
  rcases (show m = 0 ∨ m = 1 ∨ m = 2 ∨ m = 3 ∨ m = 4 by omega) with rfl | rfl | rfl | rfl | rfl <;> simp
theorem rowF_eq {f g : Nat → Nat} (h : ∀ k, k < 5 → f k = g k) : rowF f = rowF g := by
  have e0 := h 0 (by omega); have e1 := h 1 (by omega); have e2 := h 2 (by omega); have e3 := h 3 (by omega); have e4 := h 4 (by omega)
  have hr : List.range 5 = [0, 1, 2, 3, 4] := by decide
  simp only [rowF,hr,List.map,e0,e1,e2,e3,e4]
theorem rowF_loads (l : List Shard) : rowF (fun k => loadAt l (k : Int)) = (loadsOf l).map iU := by
  simp only [rowF,loadsOf,List.map_map]; rfl
def midF (l : List Shard) (ms : List Int) (j : Nat) (k : Nat) : Nat := loadAt l (k : Int) + (if (k : Int) ∈ ms.take j then 1 else 0)
theorem nodup_at {ms : List Int} {j : Nat} {y : Int} (h : ms.Nodup) (hy : ms[j]? = some y) : y ∉ ms.take j := by
  intro hm
  rw [← List.take_append_drop j ms, drop_at hy, List.nodup_append] at h
  exact h.2.2 y hm y (by simp) rfl
theorem midF_step {l : List Shard} {ms : List Int} {j m : Nat} (hnd : ms.Nodup) (hy : ms[j]? = some (m : Int)) (k : Nat) : midF l ms (j + 1) k = if k = m then midF l ms j m + 1 else midF l ms j k := by
  have hn := nodup_at hnd hy
  simp only [midF,List.take_add_one,hy,Option.toList_some,List.mem_append,List.mem_singleton]
  by_cases e : k = m
  · subst e; simp [hn]
  · have : ¬ (k : Int) = (m : Int) := by omega
    simp [e, this]
theorem shard_conf {c0 : List Shard} {c1 : List Caller} {c2 : List Result} {w : Plan} {a b : Int} (h : clusterValid ⟨c0, c1, c2, w, a, b⟩ = true) {s : Shard} (hs : s ∈ c0) : chainValid s.group = true := by
  simp only [clusterValid,Bool.and_eq_true] at h
  have := List.all_eq_true.1 h.1.1.1.1.2 s hs
  simp only [shardOk,Bool.and_eq_true] at this
  exact this.1
theorem chain_conf {c : Chain} (h : chainValid c = true) : configValid c.conf = true := by
  simp only [chainValid,Bool.and_eq_true] at h
  exact h.1.1.1.1.1.1.2
theorem cluster_eight {c0 : List Shard} {c1 : List Caller} {c2 : List Result} {w : Plan} {a b : Int} (h : clusterValid ⟨c0, c1, c2, w, a, b⟩ = true) : c0.length ≤ 8 := by
  simp only [clusterValid,sizesOk,Bool.and_eq_true,decide_eq_true_eq] at h
  exact h.1.1.1.1.1.1.1.2
theorem mk5_ok (st : St) (d : Nat) : stMk st d (DI 5) (DI 5) [.int .i64 0] 8 = some (((st.cool (.loc d 0)).obj (.loc d 0) (some (.row 1 [[.int .i64 0], [.int .i64 0], [.int .i64 0], [.int .i64 0], [.int .i64 0]]))).put d (.t (.sc (.own (.loc d 0) 5)))) := by
  simp [stMk, D.int?, List.replicate]
theorem nodeLoads_impl (c0 : List Shard) (c1 : List Caller) (c2 : List Result) (c3 c4 c5 : Int) (c6 : Str) (c7 c8 c9 c10 c11 : Int) (hs : Cluster.Small ⟨c0, c1, c2, ⟨c3, c4, c5, c6, c7, c8, c9⟩, c10, c11⟩) : EE F 31 [.ag [.u (.sl 14 (c0.map Shard.u)), .u (.sl 8 (c1.map Caller.u)), .u (.sl 9 (c2.map Result.u)), .u (.int .i64 c3), .u (.int .i64 c4), .u (.int .i64 c5), .u (.str c6), .u (.int .i64 c7), .u (.int .i64 c8), .u (.int .i64 c9), .u (.int .i64 c10), .u (.int .i64 c11)]] [] = if clusterValid ⟨c0, c1, c2, ⟨c3, c4, c5, c6, c7, c8, c9⟩, c10, c11⟩ = true then loadsRet c0 else nilLoads := by
  have hcvs := clusterValid_impl c0 c1 c2 c3 c4 c5 c6 c7 c8 c9 c10 c11 hs
  have hsh := hs.1
  have hn0 : c0.length ≤ 1048576 := hsh.1
  rw [R31, b31]
  cases hv : clusterValid ⟨c0, c1, c2, ⟨c3, c4, c5, c6, c7, c8, c9⟩, c10, c11⟩
  · simp only [↓xP,xQ,xR,xS,flatR,reduceLT,Nat.reduceBEq,reduceAdd,reduceSub,hcvs,hv]
    simp [nilLoads]
  have h8 := cluster_eight hv
  simp only [↓xP,xQ,xR,xS,flatR,reduceLT,Nat.reduceBEq,reduceAdd,reduceSub,hcvs,hv,mk5_ok,if_true]
  have hrep : [[U.int .i64 0], [U.int .i64 0], [U.int .i64 0], [U.int .i64 0], [U.int .i64 0]] = rowF (fun k => loadAt (c0.take 0) (k : Int)) := by rfl
  refine loop_ind (fun (i : Nat) st => i ≤ c0.length ∧ st.s 3 = .t (.sc (.own (.loc 11 0) 5)) ∧ st.o (.loc 11 0) = some (.row 1 (rowF (fun k => loadAt (c0.take i) (k : Int)))) ∧ st.s 13 = DU (.sl 14 (c0.map Shard.u)) ∧ st.s 14 = DI c0.length ∧ st.s 15 = DI i) (fun i => c0.length - i) (fun _ => loadsRet c0) ?_ 0 (by and_intros <;> first | omega | rfl | (simp only [↓xP,xQ,xR,xS,flatR,reduceLT,Nat.reduceBEq,reduceAdd,reduceSub,hrep] <;> first | done | rfl | omega))
  rintro i st ⟨hle, h3, ho, h13, h14, h15⟩ ih
  by_cases hi : i < c0.length
  · obtain ⟨⟨live, ⟨⟨⟨lo, up⟩, prs, kn, sld, cut⟩, ⟨ep, ms, fr⟩, nds, ups, bag, ans⟩⟩, hx⟩ : ∃ x, c0[i]? = some x := ⟨_, List.getElem?_eq_getElem hi⟩
    have hw := w_succ (i := i) (by omega)
    have hst : ∀ k, loadAt (c0.take (i + 1)) k = _ := fun k => loadAt_step hx k
    cases live
    · have e : rowF (fun k => loadAt (c0.take i) (k : Int)) = rowF (fun k => loadAt (c0.take (i + 1)) (k : Int)) := rowF_eq (fun k _ => by rw [hst]; simp [holds])
      simp only [↓xP,xQ,xR,xS,flatR,reduceLT,Nat.reduceBEq,reduceAdd,reduceSub,h3,ho,h13,h14,h15,hi,hx,hw,Shard.u]
      exact ih (i + 1) _ (by omega) (by and_intros <;> first | omega | rfl | (simp only [↓xP,xQ,xR,xS,flatR,reduceLT,Nat.reduceBEq,reduceAdd,reduceSub,h3,ho,h13,h14,← e] <;> first | done | rfl | omega))
    · have hcf := (configValid_iff _).1 (chain_conf (shard_conf hv (List.mem_of_getElem? hx)))
      obtain ⟨_, _, _, hml, _, hin, hnd⟩ := hcf
      simp only at hml hin hnd
      simp only [↓xP,xQ,xR,xS,flatR,reduceLT,Nat.reduceBEq,reduceAdd,reduceSub,h3,ho,h13,h14,h15,hi,hx,hw,Shard.u]
      have e0 : rowF (fun k => loadAt (c0.take i) (k : Int)) = rowF (midF (c0.take i) ms 0) := rowF_eq (fun k _ => by simp [midF])
      refine loop_ind (fun (j : Nat) st => j ≤ ms.length ∧ st.s 3 = .t (.sc (.own (.loc 11 0) 5)) ∧ st.o (.loc 11 0) = some (.row 1 (rowF (midF (c0.take i) ms j))) ∧ st.s 13 = DU (.sl 14 (c0.map Shard.u)) ∧ st.s 14 = DI c0.length ∧ st.s 15 = DI i ∧ st.s 25 = DU (.sl 1 (ms.map iU)) ∧ st.s 26 = DI ms.length ∧ st.s 27 = DI j) (fun j => ms.length - j) (fun _ => loadsRet c0) ?_ 0 (by and_intros <;> first | omega | rfl | (simp only [↓xP,xQ,xR,xS,flatR,reduceLT,Nat.reduceBEq,reduceAdd,reduceSub,h3,ho,h13,h14,h15,e0] <;> first | done | rfl | omega))
      clear h3 ho h13 h14 h15
      rintro j st ⟨hjl, h3, ho, h13, h14, h15, h25, h26, h27⟩ ih2
      by_cases hj : j < ms.length
      · obtain ⟨y, hy⟩ : ∃ x, ms[j]? = some x := ⟨_, List.getElem?_eq_getElem hj⟩
        have hyr := hin y (List.mem_of_getElem? hy)
        simp only [inR,Bool.and_eq_true,decide_eq_true_eq] at hyr
        obtain ⟨m, rfl⟩ : ∃ m : Nat, y = (m : Int) := ⟨y.toNat, by omega⟩
        have hm5 : m < 5 := by omega
        have hw2 := w_succ (i := j) (by omega)
        have hlm : midF (c0.take i) ms j m ≤ 9 := by
          have := loadAt_le (c0.take i) (m : Int)
          have : (c0.take i).length ≤ 8 := by rw [List.length_take]; omega
          simp only [midF]; split <;> omega
        have hw3 := w_succ (i := midF (c0.take i) ms j m) (by omega)
        have hgt := rowF_get (f := midF (c0.take i) ms j) hm5
        have hset := rowF_set (f := midF (c0.take i) ms j) (g := midF (c0.take i) ms (j + 1)) hm5 (fun k _ => midF_step hnd hy k)
        simp only [↓xP,xQ,xR,xS,flatR,reduceLT,Nat.reduceBEq,reduceAdd,reduceSub,h3,ho,h13,h14,h15,h25,h26,h27,hj,hy,hw2,hw3,iU,hm5,hgt,rowF_len,hset]
        exact ih2 (j + 1) _ (by omega) (by and_intros <;> first | omega | rfl | (simp only [↓xP,xQ,xR,xS,flatR,reduceLT,Nat.reduceBEq,reduceAdd,reduceSub,h3,ho,h13,h14,h15,h25,h26] <;> first | done | rfl | omega))
      · have hmt : ms.take j = ms := List.take_of_length_le (by omega)
        have e1 : rowF (midF (c0.take i) ms j) = rowF (fun k => loadAt (c0.take (i + 1)) (k : Int)) := rowF_eq (fun k _ => by
          rw [hst, midF, hmt]; simp [holds])
        rw [e1] at ho
        simp only [↓xP,xQ,xR,xS,flatR,reduceLT,Nat.reduceBEq,reduceAdd,reduceSub,h3,ho,h13,h14,h15,h25,h26,h27,hj,hw]
        exact ih (i + 1) _ (by omega) (by and_intros <;> first | omega | rfl | (simp only [↓xP,xQ,xR,xS,flatR,reduceLT,Nat.reduceBEq,reduceAdd,reduceSub,h3,ho,h13,h14] <;> first | done | rfl | omega))
  · have hall : c0.take i = c0 := List.take_of_length_le (by omega)
    rw [hall, rowF_loads] at ho
    simp only [↓xP,xQ,xR,xS,flatR,reduceLT,Nat.reduceBEq,reduceAdd,reduceSub,h3,ho,h13,h14,h15,hi,List.length_map,loads_len,loadsRet]
def ldAt (loads : List Int) (k : Int) : Int := (loads[k.toNat]?).getD 0
def greatStep (loads : List Int) (b x : Int) : Int := if ldAt loads b < ldAt loads x then x else b
def greatest (loads : List Int) (ms : List Int) : Int := ms.foldl (greatStep loads) (ms.headD 0)
theorem greatest_mem (loads : List Int) : ∀ (ms : List Int) (b : Int), ms.foldl (greatStep loads) b = b ∨ ms.foldl (greatStep loads) b ∈ ms
  | [], b => .inl rfl
  | x :: ms, b => by
    rw [List.foldl_cons]
    rcases greatest_mem loads ms (greatStep loads b x) with h | h
    · rw [h, greatStep]
      split
      · exact .inr (by simp)
      · exact .inl rfl
    · exact .inr (by simp [h])
theorem greatestLoad_ok (loads ms : List Int) (hl : loads.length = 5) (h1 : 1 ≤ ms.length) (hn : ms.length ≤ 1048576) (hin : ∀ y, y ∈ ms → inR y 0 4 = true) : EE F 81 [L 1 (loads.map iU), L 1 (ms.map iU)] [] = ok1 (I (greatest loads ms)) := by
  rw [R81, b81]
  obtain ⟨m0, hm0⟩ : ∃ x, ms[0]? = some x := ⟨_, List.getElem?_eq_getElem (by omega)⟩
  have hd : ms.headD 0 = m0 := by
    cases ms with
    | nil => simp at hm0
    | cons a l => simpa using hm0
  have hg : ∀ y, inR y 0 4 = true → ∃ m : Nat, y = (m : Int) ∧ m < 5 := by
    intro y hy
    simp only [inR,Bool.and_eq_true,decide_eq_true_eq] at hy
    exact ⟨y.toNat, by omega, by omega⟩
  simp only [↓xP,xQ,xR,xS,flatR,reduceLT,Nat.reduceBEq,reduceAdd,reduceSub,hm0,iU]
  refine (loop_ind (fun (a : Nat × Int) st => a.1 ≤ ms.length ∧ inR a.2 0 4 = true ∧ st.s 0 = DU (.sl 1 (loads.map iU)) ∧ st.s 5 = DI a.2 ∧ st.s 11 = DU (.sl 1 (ms.map iU)) ∧ st.s 12 = DI ms.length ∧ st.s 13 = DI a.1) (fun a => ms.length - a.1) (fun a => ok1 (I ((ms.drop a.1).foldl (greatStep loads) a.2))) ?_ (0, m0) ⟨by omega, hin m0 (List.mem_of_getElem? hm0), (by and_intros <;> first | omega | rfl | (simp only [↓xP,xQ,xR,xS,flatR,reduceLT,Nat.reduceBEq,reduceAdd,reduceSub] <;> first | done | rfl | omega))⟩).trans (by simp only [greatest,hd,List.drop_zero])
  rintro ⟨i, b⟩ st ⟨hle, hb, h0, h5, h11, h12, h13⟩ ih
  dsimp only at *
  by_cases hi : i < ms.length
  · obtain ⟨y, hy⟩ : ∃ x, ms[i]? = some x := ⟨_, List.getElem?_eq_getElem hi⟩
    have hyr := hin y (List.mem_of_getElem? hy)
    have hw := w_succ (i := i) (by omega)
    rw [drop_at hy, List.foldl_cons]
    obtain ⟨n, rfl, hn5⟩ := hg y hyr
    obtain ⟨k, rfl, hk5⟩ := hg b hb
    obtain ⟨v, hv⟩ : ∃ x, loads[n]? = some x := ⟨_, List.getElem?_eq_getElem (by omega)⟩
    obtain ⟨w, hwv⟩ : ∃ x, loads[k]? = some x := ⟨_, List.getElem?_eq_getElem (by omega)⟩
    have hs : greatStep loads (k : Int) (n : Int) = if w < v then (n : Int) else (k : Int) := by simp [greatStep, ldAt, hv, hwv]
    have hnl : n < loads.length := by omega
    have hkl : k < loads.length := by omega
    by_cases e : w < v
    · rw [hs, if_pos e]
      simp only [↓xP,xQ,xR,xS,flatR,reduceLT,Nat.reduceBEq,reduceAdd,reduceSub,rdx2,h0,h5,h11,h12,h13,hi,hy,hw,hv,hwv,hnl,hkl,iU,gt_iff_lt,e]
      exact ih (i + 1, (n : Int)) _ (by dsimp only; omega) ⟨by dsimp only; omega, hyr, (by and_intros <;> first | omega | rfl | (simp only [↓xP,xQ,xR,xS,flatR,reduceLT,Nat.reduceBEq,reduceAdd,reduceSub,h0,h11,h12,hw] <;> first | done | rfl | omega))⟩
    · rw [hs, if_neg e]
      simp only [↓xP,xQ,xR,xS,flatR,reduceLT,Nat.reduceBEq,reduceAdd,reduceSub,rdx2,h0,h5,h11,h12,h13,hi,hy,hw,hv,hwv,hnl,hkl,iU,gt_iff_lt,e]
      exact ih (i + 1, (k : Int)) _ (by dsimp only; omega) ⟨by dsimp only; omega, hb, (by and_intros <;> first | omega | rfl | (simp only [↓xP,xQ,xR,xS,flatR,reduceLT,Nat.reduceBEq,reduceAdd,reduceSub,h0,h5,h11,h12,hw] <;> first | done | rfl | omega))⟩
  · simp only [↓xP,xQ,xR,xS,flatR,reduceLT,Nat.reduceBEq,reduceAdd,reduceSub,h0,h5,h11,h12,h13,hi]
    rw [List.drop_of_length_le (by omega)]; rfl
theorem mem_insL {l : List Route} {x y : Route} (h : y ∈ insL l x) : y = x ∨ y ∈ l := by
  simp only [insL,List.mem_append,List.mem_cons] at h
  rcases h with h | h | h
  · exact .inr ((List.takeWhile_sublist _).mem h)
  · exact .inl h
  · exact .inr ((List.dropWhile_sublist _).mem h)
theorem mem_foldl : ∀ (m l : List Route) (y : Route), y ∈ m.foldl insL l → y ∈ l ∨ y ∈ m
  | [], l, y, h => .inl h
  | a :: m, l, y, h => by
    rcases mem_foldl m (insL l a) y h with h | h
    · rcases mem_insL h with rfl | h
      · exact .inr (by simp)
      · exact .inl h
    · exact .inr (by simp [h])
theorem mem_liveR : ∀ (l : List Shard) (i : Nat) (r : Route), r ∈ liveR l i → ∃ (j : Nat) (s : Shard), l[j]? = some s ∧ r.number = ((i + j : Nat) : Int) ∧ s.live = true
  | [], i, r, h => by simp [liveR] at h
  | s :: l, i, r, h => by
    simp only [liveR] at h
    split at h
    · rcases List.mem_cons.1 h with rfl | h
      · exact ⟨0, s, rfl, by simp, by assumption⟩
      · obtain ⟨j, s', h1, h2, h3⟩ := mem_liveR l (i + 1) r h
        exact ⟨j + 1, s', by simpa using h1, by rw [h2]; congr 1; omega, h3⟩
    · obtain ⟨j, s', h1, h2, h3⟩ := mem_liveR l (i + 1) r h
      exact ⟨j + 1, s', by simpa using h1, by rw [h2]; congr 1; omega, h3⟩
theorem mem_routes {l : List Shard} {r : Route} (h : r ∈ routesOf l) : ∃ (j : Nat) (s : Shard), l[j]? = some s ∧ r.number = (j : Int) ∧ s.live = true := by
  rcases mem_foldl _ _ _ h with h | h
  · cases h
  · obtain ⟨j, s, h1, h2, h3⟩ := mem_liveR l 0 r h
    exact ⟨j, s, h1, by rw [h2]; simp, h3⟩
def clRoutes (x : Cluster) : List Route := if clusterValid x = true then routesOf x.shards else []
theorem clusterRoutes_spec (c0 : List Shard) (c1 : List Caller) (c2 : List Result) (c3 c4 c5 : Int) (c6 : Str) (c7 c8 c9 c10 c11 : Int) (hs : Cluster.Small ⟨c0, c1, c2, ⟨c3, c4, c5, c6, c7, c8, c9⟩, c10, c11⟩) : EE F 24 [.ag [.u (.sl 14 (c0.map Shard.u)), .u (.sl 8 (c1.map Caller.u)), .u (.sl 9 (c2.map Result.u)), .u (.int .i64 c3), .u (.int .i64 c4), .u (.int .i64 c5), .u (.str c6), .u (.int .i64 c7), .u (.int .i64 c8), .u (.int .i64 c9), .u (.int .i64 c10), .u (.int .i64 c11)]] [] = some ⟨[.sc (.own (.par 0) (clRoutes ⟨c0, c1, c2, ⟨c3, c4, c5, c6, c7, c8, c9⟩, c10, c11⟩).length)], [.row 3 ((clRoutes ⟨c0, c1, c2, ⟨c3, c4, c5, c6, c7, c8, c9⟩, c10, c11⟩).map Route.u)], []⟩ := by
  have hcvs := clusterValid_spec c0 c1 c2 c3 c4 c5 c6 c7 c8 c9 c10 c11 hs
  rw [R24, b24]
  cases hv : clusterValid ⟨c0, c1, c2, ⟨c3, c4, c5, c6, c7, c8, c9⟩, c10, c11⟩
  · simp only [↓xP,xQ,xR,xS,flatR,reduceLT,Nat.reduceBEq,reduceAdd,reduceSub,hcvs,hv]
    simp [clRoutes, hv]
  · have hlr := l27Routes_ok c0 c1 c2 c3 c4 c5 c6 c7 c8 c9 c10 c11 (cluster_eight hv)
    simp only [routesRet] at hlr
    simp only [↓xP,xQ,xR,xS,flatR,reduceLT,Nat.reduceBEq,reduceAdd,reduceSub,hcvs,hv,hlr,List.length_map,Nat.le_refl]
    simp [clRoutes, hv]
def balStep (x : Cluster) (r : Route) : Option Plan := match x.shards[r.number.toNat]? with
  | some s => if 0 ≤ pickSpare (loadsOf x.shards) s.group.up s.group.conf ∧ ldAt (loadsOf x.shards) (pickSpare (loadsOf x.shards) s.group.up s.group.conf) + 2 ≤ ldAt (loadsOf x.shards) (greatest (loadsOf x.shards) s.group.conf.members) then some ⟨3, r.number, 0, [], greatest (loadsOf x.shards) s.group.conf.members, pickSpare (loadsOf x.shards) s.group.up s.group.conf, 0⟩ else none
  | none => none
def balance (x : Cluster) : Option Plan := if clusterValid x = true then (routesOf x.shards).findSome? (balStep x) else none
def planRet : Option Plan → Option Ret
  | none => some ⟨[.ag [.u (.int .i64 0), .u (.int .i64 0), .u (.int .i64 0), .u (.str []), .u (.int .i64 0), .u (.int .i64 0), .u (.int .i64 0)], B false], [], []⟩
  | some p => some ⟨[.ag [.u (.int .i64 p.kind), .u (.int .i64 p.first), .u (.int .i64 p.second), .u (.str p.key), .u (.int .i64 p.from_), .u (.int .i64 p.to_), .u (.int .i64 p.step)], B true], [], []⟩
theorem pickSpare_lt (loads : List Int) (up : List Bool) (c : Config) : pickSpare loads up c < 5 := by
  unfold pickSpare
  split
  · have := least_ok loads up c.members
    rcases this with h | ⟨j, hj⟩
    · rw [h.1]; omega
    · omega
  · omega
theorem isnil : visn false (.t (.sc (.u .nil))) = some (DB true) := rfl
theorem isn5 (ne : Bool) (id : Id) : visn ne (.t (.sc (.own id 5))) = some (DB ne) := rfl
theorem loads_get (l : List Shard) {k : Nat} (h : k < 5) : (loadsOf l)[k]? = some (loadAt l (k : Int) : Int) := by simp [loadsOf, h]
theorem ld_loads (l : List Shard) {k : Nat} (h : k < 5) : ldAt (loadsOf l) (k : Int) = (loadAt l (k : Int) : Int) := by simp [ldAt, loads_get l h]
theorem greatest_in (loads : List Int) {ms : List Int} (h1 : 1 ≤ ms.length) (hin : ∀ y, y ∈ ms → inR y 0 4 = true) : inR (greatest loads ms) 0 4 = true := by
  cases ms with
  | nil => simp at h1
  | cons a l =>
    rcases greatest_mem loads (a :: l) ((a :: l).headD 0) with h | h
    · rw [greatest, h]; exact hin a (by simp)
    · exact hin _ h
theorem balanceMove_impl (c0 : List Shard) (c1 : List Caller) (c2 : List Result) (c3 c4 c5 : Int) (c6 : Str) (c7 c8 c9 c10 c11 : Int) (hs : Cluster.Small ⟨c0, c1, c2, ⟨c3, c4, c5, c6, c7, c8, c9⟩, c10, c11⟩) : EE F 22 [.ag [.u (.sl 14 (c0.map Shard.u)), .u (.sl 8 (c1.map Caller.u)), .u (.sl 9 (c2.map Result.u)), .u (.int .i64 c3), .u (.int .i64 c4), .u (.int .i64 c5), .u (.str c6), .u (.int .i64 c7), .u (.int .i64 c8), .u (.int .i64 c9), .u (.int .i64 c10), .u (.int .i64 c11)]] [] = planRet (balance ⟨c0, c1, c2, ⟨c3, c4, c5, c6, c7, c8, c9⟩, c10, c11⟩) := by
  have hnl := nodeLoads_impl c0 c1 c2 c3 c4 c5 c6 c7 c8 c9 c10 c11 hs
  have hsh := hs.1
  have hn0 : c0.length ≤ 1048576 := hsh.1
  rw [R22, b22]
  cases hv : clusterValid ⟨c0, c1, c2, ⟨c3, c4, c5, c6, c7, c8, c9⟩, c10, c11⟩
  · simp only [hv,Bool.false_eq_true,if_false,nilLoads] at hnl
    simp only [↓xP,xQ,xR,xS,flatR,reduceLT,Nat.reduceBEq,reduceAdd,reduceSub,hnl,isnil]
    simp [planRet, balance, hv]
  have h8 := cluster_eight hv
  simp only [hv,if_true,loadsRet] at hnl
  have hlr := liveRoutes_ok c0 c1 c2 c3 c4 c5 c6 c7 c8 c9 c10 c11 h8
  simp only [routesRet] at hlr
  have hbal : balance ⟨c0, c1, c2, ⟨c3, c4, c5, c6, c7, c8, c9⟩, c10, c11⟩ = ((routesOf c0).drop 0).findSome? (balStep ⟨c0, c1, c2, ⟨c3, c4, c5, c6, c7, c8, c9⟩, c10, c11⟩) := by simp [balance, hv]
  rw [hbal]
  simp only [↓xP,xQ,xR,xS,flatR,reduceLT,Nat.reduceBEq,reduceAdd,reduceSub,hnl,hlr,List.length_map,loads_len,Nat.le_refl,isn5]
  refine loop_ind (fun (i : Nat) st => st.s 1 = .t (.sc (.ptr (.loc 1 0) 0 0)) ∧ st.o (.loc 1 0) = some (.box [.u (.sl 14 (c0.map Shard.u)), .u (.sl 8 (c1.map Caller.u)), .u (.sl 9 (c2.map Result.u)), .u (.int .i64 c3), .u (.int .i64 c4), .u (.int .i64 c5), .u (.str c6), .u (.int .i64 c7), .u (.int .i64 c8), .u (.int .i64 c9), .u (.int .i64 c10), .u (.int .i64 c11)]) ∧ st.s 2 = .t (.sc (.ptr (.loc 2 0) 0 0)) ∧ st.o (.loc 2 0) = some (.box [.u (.int .i64 0), .u (.int .i64 0), .u (.int .i64 0), .u (.str []), .u (.int .i64 0), .u (.int .i64 0), .u (.int .i64 0)]) ∧ st.s 4 = .t (.sc (.own (.loc 11 0) 5)) ∧ st.o (.loc 11 0) = some (.row 1 ((loadsOf c0).map iU)) ∧ st.s 16 = .t (.sc (.own (.loc 16 0) (routesOf c0).length)) ∧ st.o (.loc 16 0) = some (.row 3 ((routesOf c0).map Route.u)) ∧ st.s 17 = DI (routesOf c0).length ∧ st.s 18 = DI i) (fun i => (routesOf c0).length - i) (fun i => planRet (((routesOf c0).drop i).findSome? (balStep ⟨c0, c1, c2, ⟨c3, c4, c5, c6, c7, c8, c9⟩, c10, c11⟩))) ?_ 0 (by and_intros <;> first | omega | rfl | (simp only [↓xP,xQ,xR,xS,flatR,reduceLT,Nat.reduceBEq,reduceAdd,reduceSub] <;> first | done | rfl | omega))
  have hrl : (routesOf c0).length ≤ 8 := by
    have := sortR_len (liveR c0 0)
    have := liveR_len c0 0
    simp only [routesOf]; omega
  rintro i st ⟨h1, hb, h2, hb2, h4, hb4, h16, hb16, h17, h18⟩ ih
  by_cases hi : i < (routesOf c0).length
  · obtain ⟨⟨rn, ⟨rlo, rup⟩⟩, hr⟩ : ∃ x, (routesOf c0)[i]? = some x := ⟨_, List.getElem?_eq_getElem hi⟩
    obtain ⟨j, s, hx, hnum, hlive⟩ := mem_routes (List.mem_of_getElem? hr)
    simp only at hnum
    subst hnum
    have hcs := shard_conf hv (List.mem_of_getElem? hx)
    have hsx := hsh.2 _ (List.mem_of_getElem? hx)
    obtain ⟨live, ⟨⟨⟨lo, up⟩, prs, kn, sld, cut⟩, ⟨ep, ms, fr⟩, nds, ups, bag, ans⟩⟩ := s
    have hu5 := chainValid_up hcs
    have hcf := (configValid_iff _).1 (chain_conf hcs)
    simp only at hu5 hcf
    obtain ⟨_, _, hml1, hml, _, hin, hnd⟩ := hcf
    have hjl : j < c0.length := (List.getElem?_eq_some_iff.1 hx).1
    have hw := w_succ (i := i) (by omega)
    have hps := pickSpare_impl (loadsOf c0) ups ep ms fr (by rw [loads_len]; omega) (by omega) (by omega)
    have hgl := greatestLoad_ok (loadsOf c0) ms (loads_len c0) hml1 (by omega) hin
    have hgi := greatest_in (loadsOf c0) hml1 hin
    have hst : balStep ⟨c0, c1, c2, ⟨c3, c4, c5, c6, c7, c8, c9⟩, c10, c11⟩ ⟨(j : Int), ⟨rlo, rup⟩⟩ = if 0 ≤ pickSpare (loadsOf c0) ups ⟨ep, ms, fr⟩ ∧ ldAt (loadsOf c0) (pickSpare (loadsOf c0) ups ⟨ep, ms, fr⟩) + 2 ≤ ldAt (loadsOf c0) (greatest (loadsOf c0) ms) then some ⟨3, (j : Int), 0, [], greatest (loadsOf c0) ms, pickSpare (loadsOf c0) ups ⟨ep, ms, fr⟩, 0⟩ else none := by
      simp [balStep, hx]
    have hplt := pickSpare_lt (loadsOf c0) ups ⟨ep, ms, fr⟩
    rw [drop_at hr, List.findSome?_cons, hst]
    revert hps hgl hgi hplt
    generalize pickSpare (loadsOf c0) ups ⟨ep, ms, fr⟩ = sp
    generalize greatest (loadsOf c0) ms = hot
    intro hps hgl hgi hplt
    simp only [inR,Bool.and_eq_true,decide_eq_true_eq] at hgi
    obtain ⟨m, rfl⟩ : ∃ m : Nat, hot = (m : Int) := ⟨hot.toNat, by omega⟩
    have hm5 : m < 5 := by omega
    have hlm := loadAt_le c0 (m : Int)
    have htk5 : List.take 5 ((loadsOf c0).map iU) = (loadsOf c0).map iU := List.take_of_length_le (by rw [List.length_map, loads_len]; omega)
    by_cases hp : 0 ≤ sp
    · obtain ⟨p, rfl⟩ : ∃ p : Nat, sp = (p : Int) := ⟨sp.toNat, by omega⟩
      have hp5 : p < 5 := by omega
      have hlp := loadAt_le c0 (p : Int)
      have hwr : IntKind.i64.wrap ((loadAt c0 (m : Int) : Int) - (loadAt c0 (p : Int) : Int)) = (loadAt c0 (m : Int) : Int) - (loadAt c0 (p : Int) : Int) := w64 (by omega) (by omega)
      rw [ld_loads c0 hm5, ld_loads c0 hp5]
      by_cases hge : 2 ≤ (loadAt c0 (m : Int) : Int) - (loadAt c0 (p : Int) : Int)
      · have hc : 0 ≤ (p : Int) ∧ (loadAt c0 (p : Int) : Int) + 2 ≤ (loadAt c0 (m : Int) : Int) := ⟨hp, by omega⟩
        rw [if_pos hc]
        simp only [↓xP,xQ,xR,xS,flatR,reduceLT,Nat.reduceBEq,reduceAdd,reduceSub,rdx2,h1,hb,h2,hb2,h4,hb4,h16,hb16,h17,h18,hi,hr,hx,hjl,Route.u,Shard.u,hps,hgl,htk5,loads_len,Nat.le_refl,List.length_map,ge_iff_le,hp,hm5,hp5,loads_get c0 hm5,loads_get c0 hp5,iU,hwr,hge,hw,planRet]
      · have hc : ¬ (0 ≤ (p : Int) ∧ (loadAt c0 (p : Int) : Int) + 2 ≤ (loadAt c0 (m : Int) : Int)) := fun hc => hge (by omega)
        rw [if_neg hc]
        simp only [↓xP,xQ,xR,xS,flatR,reduceLT,Nat.reduceBEq,reduceAdd,reduceSub,rdx2,h1,hb,h2,hb2,h4,hb4,h16,hb16,h17,h18,hi,hr,hx,hjl,Route.u,Shard.u,hps,hgl,htk5,loads_len,Nat.le_refl,List.length_map,ge_iff_le,hp,hm5,hp5,loads_get c0 hm5,loads_get c0 hp5,iU,hwr,hge,hw]
        exact ih (i + 1) _ (by omega) (by and_intros <;> first | omega | rfl | (simp only [↓xP,xQ,xR,xS,flatR,reduceLT,Nat.reduceBEq,reduceAdd,reduceSub,h1,hb,h2,hb2,h4,hb4,h16,hb16,h17] <;> first | done | rfl | omega))
    · have hc : ¬ (0 ≤ sp ∧ ldAt (loadsOf c0) sp + 2 ≤ ldAt (loadsOf c0) (m : Int)) := fun hc => hp hc.1
      rw [if_neg hc]
      simp only [↓xP,xQ,xR,xS,flatR,reduceLT,Nat.reduceBEq,reduceAdd,reduceSub,rdx2,h1,hb,h2,hb2,h4,hb4,h16,hb16,h17,h18,hi,hr,hx,hjl,Route.u,Shard.u,hps,hgl,htk5,loads_len,Nat.le_refl,List.length_map,ge_iff_le,hp,hm5,hw]
      exact ih (i + 1) _ (by omega) (by and_intros <;> first | omega | rfl | (simp only [↓xP,xQ,xR,xS,flatR,reduceLT,Nat.reduceBEq,reduceAdd,reduceSub,h1,hb,h2,hb2,h4,hb4,h16,hb16,h17] <;> first | done | rfl | omega))
  · simp only [↓xP,xQ,xR,xS,flatR,reduceLT,Nat.reduceBEq,reduceAdd,reduceSub,h1,hb,h2,hb2,h4,hb4,h16,hb16,h17,h18,hi]
    rw [List.drop_of_length_le (by omega)]; rfl
theorem great_take {loads ms : List Int} {k : Nat} {y m0 : Int} (h : ms[k]? = some y) : (ms.take (k + 1)).foldl (greatStep loads) m0 = greatStep loads ((ms.take k).foldl (greatStep loads) m0) y := by
  rw [List.take_add_one, h]; simp
def orElseP (a b : Option Plan) : Option Plan := match a with
  | some p => some p
  | none => b
theorem find_cons (f : Route → Option Plan) (x : Route) (l : List Route) : (x :: l).findSome? f = orElseP (f x) (l.findSome? f) := by
  rw [List.findSome?_cons]; cases f x <;> rfl
theorem balanceMove_spec (c0 : List Shard) (c1 : List Caller) (c2 : List Result) (c3 c4 c5 : Int) (c6 : Str) (c7 c8 c9 c10 c11 : Int) (hs : Cluster.Small ⟨c0, c1, c2, ⟨c3, c4, c5, c6, c7, c8, c9⟩, c10, c11⟩) : EE F 21 [.ag [.u (.sl 14 (c0.map Shard.u)), .u (.sl 8 (c1.map Caller.u)), .u (.sl 9 (c2.map Result.u)), .u (.int .i64 c3), .u (.int .i64 c4), .u (.int .i64 c5), .u (.str c6), .u (.int .i64 c7), .u (.int .i64 c8), .u (.int .i64 c9), .u (.int .i64 c10), .u (.int .i64 c11)]] [] = planRet (balance ⟨c0, c1, c2, ⟨c3, c4, c5, c6, c7, c8, c9⟩, c10, c11⟩) := by
  have hnl := nodeLoads_spec c0 c1 c2 c3 c4 c5 c6 c7 c8 c9 c10 c11 hs
  have hcr := clusterRoutes_spec c0 c1 c2 c3 c4 c5 c6 c7 c8 c9 c10 c11 hs
  have hsh := hs.1
  have hn0 : c0.length ≤ 1048576 := hsh.1
  rw [R21, b21]
  cases hv : clusterValid ⟨c0, c1, c2, ⟨c3, c4, c5, c6, c7, c8, c9⟩, c10, c11⟩
  · simp only [hv,Bool.false_eq_true,if_false,noLoads] at hnl
    simp only [clRoutes,hv,Bool.false_eq_true,if_false,List.length_nil,List.map_nil] at hcr
    simp only [↓xP,xQ,xR,xS,flatR,reduceLT,Nat.reduceBEq,reduceAdd,reduceSub,hnl,hcr]
    have hz : ((0 : Int) < ((0 : Nat) : Int)) = False := by simp
    refine loop_ind (fun (_ : Unit) st => st.s 2 = .t (.sc (.ptr (.loc 2 0) 0 0)) ∧ st.o (.loc 2 0) = some (.box [.u (.int .i64 0), .u (.int .i64 0), .u (.int .i64 0), .u (.str []), .u (.int .i64 0), .u (.int .i64 0), .u (.int .i64 0)]) ∧ st.s 5 = .t (.sc (.own (.loc 14 0) 0)) ∧ st.o (.loc 14 0) = some (.row 3 []) ∧ st.s 6 = DI 0) (fun _ => 0) (fun _ => planRet (balance ⟨c0, c1, c2, ⟨c3, c4, c5, c6, c7, c8, c9⟩, c10, c11⟩)) ?_ () (by and_intros <;> first | omega | rfl | (simp only [↓xP,xQ,xR,xS,flatR,reduceLT,Nat.reduceBEq,reduceAdd,reduceSub] <;> first | done | rfl | omega))
    rintro _ st ⟨h2, hb2, h5, hb5, h6⟩ _
    simp only [↓xP,xQ,xR,xS,flatR,reduceLT,Nat.reduceBEq,reduceAdd,reduceSub,h2,hb2,h5,hb5,h6,hz]
    simp [planRet, balance, hv]
  have h8 := cluster_eight hv
  simp only [hv,if_true,loadsRet] at hnl
  simp only [clRoutes,hv,if_true] at hcr
  have hbal : balance ⟨c0, c1, c2, ⟨c3, c4, c5, c6, c7, c8, c9⟩, c10, c11⟩ = ((routesOf c0).drop 0).findSome? (balStep ⟨c0, c1, c2, ⟨c3, c4, c5, c6, c7, c8, c9⟩, c10, c11⟩) := by simp [balance, hv]
  rw [hbal]
  simp only [↓xP,xQ,xR,xS,flatR,reduceLT,Nat.reduceBEq,reduceAdd,reduceSub,hnl,hcr,List.length_map,loads_len,Nat.le_refl]
  refine loop_ind (fun (i : Nat) st => st.s 1 = .t (.sc (.ptr (.loc 1 0) 0 0)) ∧ st.o (.loc 1 0) = some (.box [.u (.sl 14 (c0.map Shard.u)), .u (.sl 8 (c1.map Caller.u)), .u (.sl 9 (c2.map Result.u)), .u (.int .i64 c3), .u (.int .i64 c4), .u (.int .i64 c5), .u (.str c6), .u (.int .i64 c7), .u (.int .i64 c8), .u (.int .i64 c9), .u (.int .i64 c10), .u (.int .i64 c11)]) ∧ st.s 2 = .t (.sc (.ptr (.loc 2 0) 0 0)) ∧ st.o (.loc 2 0) = some (.box [.u (.int .i64 0), .u (.int .i64 0), .u (.int .i64 0), .u (.str []), .u (.int .i64 0), .u (.int .i64 0), .u (.int .i64 0)]) ∧ st.s 4 = .t (.sc (.own (.loc 12 0) 5)) ∧ st.o (.loc 12 0) = some (.row 1 ((loadsOf c0).map iU)) ∧ st.s 5 = .t (.sc (.own (.loc 14 0) (routesOf c0).length)) ∧ st.o (.loc 14 0) = some (.row 3 ((routesOf c0).map Route.u)) ∧ st.s 6 = DI i) (fun i => (routesOf c0).length - i) (fun i => planRet (((routesOf c0).drop i).findSome? (balStep ⟨c0, c1, c2, ⟨c3, c4, c5, c6, c7, c8, c9⟩, c10, c11⟩))) ?_ 0 (by and_intros <;> first | omega | rfl | (simp only [↓xP,xQ,xR,xS,flatR,reduceLT,Nat.reduceBEq,reduceAdd,reduceSub] <;> first | done | rfl | omega))
  have hrl : (routesOf c0).length ≤ 8 := by
    have := sortR_len (liveR c0 0)
    have := liveR_len c0 0
    simp only [routesOf]; omega
  rintro i st ⟨h1, hb, h2, hb2, h4, hb4, h5, hb5, h6⟩ ih
  by_cases hi : i < (routesOf c0).length
  · obtain ⟨⟨rn, ⟨rlo, rup⟩⟩, hr⟩ : ∃ x, (routesOf c0)[i]? = some x := ⟨_, List.getElem?_eq_getElem hi⟩
    obtain ⟨j, s, hx, hnum, hlive⟩ := mem_routes (List.mem_of_getElem? hr)
    simp only at hnum
    subst hnum
    have hcs := shard_conf hv (List.mem_of_getElem? hx)
    have hsx := hsh.2 _ (List.mem_of_getElem? hx)
    obtain ⟨live, ⟨⟨⟨lo, up⟩, prs, kn, sld, cut⟩, ⟨ep, ms, fr⟩, nds, ups, bag, ans⟩⟩ := s
    have hu5 := chainValid_up hcs
    have hcf := (configValid_iff _).1 (chain_conf hcs)
    simp only at hu5 hcf
    obtain ⟨_, _, hml1, hml, _, hin, hnd⟩ := hcf
    have hjl : j < c0.length := (List.getElem?_eq_some_iff.1 hx).1
    have hw := w_succ (i := i) (by omega)
    obtain ⟨m0, hm0⟩ : ∃ x, ms[0]? = some x := ⟨_, List.getElem?_eq_getElem (by omega)⟩
    have hd : ms.headD 0 = m0 := by
      cases ms with
      | nil => simp at hm0
      | cons a l => simpa using hm0
    have hps := pickSpare_spec (loadsOf c0) ups ep ms fr (by rw [loads_len]; omega) (by omega) (by omega)
    have hst : balStep ⟨c0, c1, c2, ⟨c3, c4, c5, c6, c7, c8, c9⟩, c10, c11⟩ ⟨(j : Int), ⟨rlo, rup⟩⟩ = if 0 ≤ pickSpare (loadsOf c0) ups ⟨ep, ms, fr⟩ ∧ ldAt (loadsOf c0) (pickSpare (loadsOf c0) ups ⟨ep, ms, fr⟩) + 2 ≤ ldAt (loadsOf c0) (greatest (loadsOf c0) ms) then some ⟨3, (j : Int), 0, [], greatest (loadsOf c0) ms, pickSpare (loadsOf c0) ups ⟨ep, ms, fr⟩, 0⟩ else none := by
      simp [balStep, hx]
    have hplt := pickSpare_lt (loadsOf c0) ups ⟨ep, ms, fr⟩
    have htk5 : List.take 5 ((loadsOf c0).map iU) = (loadsOf c0).map iU := List.take_of_length_le (by rw [List.length_map, loads_len]; omega)
    rw [drop_at hr, find_cons, hst]
    revert hps hplt
    generalize pickSpare (loadsOf c0) ups ⟨ep, ms, fr⟩ = sp
    intro hps hplt
    simp only [↓xP,xQ,xR,xS,flatR,reduceLT,Nat.reduceBEq,reduceAdd,reduceSub,rdx2,h1,hb,h2,hb2,h4,hb4,h5,hb5,h6,hi,hr,hx,hjl,Route.u,Shard.u,hps,htk5,loads_len,Nat.le_refl,List.length_map,hm0,iU]
    have hg0 : (ms.take 1).foldl (greatStep (loadsOf c0)) m0 = m0 := by rw [great_take hm0]; simp [greatStep]
    have hm0r := hin m0 (List.mem_of_getElem? hm0)
    refine loop_ind (fun (k : Nat) st => k ≤ ms.length ∧ 1 ≤ k ∧ inR ((ms.take k).foldl (greatStep (loadsOf c0)) m0) 0 4 = true ∧ st.s 1 = .t (.sc (.ptr (.loc 1 0) 0 0)) ∧ st.o (.loc 1 0) = some (.box [.u (.sl 14 (c0.map Shard.u)), .u (.sl 8 (c1.map Caller.u)), .u (.sl 9 (c2.map Result.u)), .u (.int .i64 c3), .u (.int .i64 c4), .u (.int .i64 c5), .u (.str c6), .u (.int .i64 c7), .u (.int .i64 c8), .u (.int .i64 c9), .u (.int .i64 c10), .u (.int .i64 c11)]) ∧ st.s 2 = .t (.sc (.ptr (.loc 2 0) 0 0)) ∧ st.o (.loc 2 0) = some (.box [.u (.int .i64 0), .u (.int .i64 0), .u (.int .i64 0), .u (.str []), .u (.int .i64 0), .u (.int .i64 0), .u (.int .i64 0)]) ∧ st.s 4 = .t (.sc (.own (.loc 12 0) 5)) ∧ st.o (.loc 12 0) = some (.row 1 ((loadsOf c0).map iU)) ∧ st.s 5 = .t (.sc (.own (.loc 14 0) (routesOf c0).length)) ∧ st.o (.loc 14 0) = some (.row 3 ((routesOf c0).map Route.u)) ∧ st.s 6 = DI i ∧ st.s 7 = .t (.sc (.ptr (.loc 7 0) 0 0)) ∧ st.o (.loc 7 0) = some (.box [.u (.str lo), .u (.str up), .u (.sl 2 (prs.map Pair.u)), .u (.sl 3 (kn.map Session.u)), .u (.bool sld), .u (.str cut), .u (.int .i64 ep), .u (.sl 1 (ms.map iU)), .u (.bool fr), .u (.sl 5 (nds.map Replica.u)), .u (.sl 1 (ups.map bU)), .u (.sl 7 (bag.map Message.u)), .u (.sl 7 (ans.map Answer.u))]) ∧ st.s 8 = DI sp ∧ st.s 9 = DI ((ms.take k).foldl (greatStep (loadsOf c0)) m0) ∧ st.s 10 = DI k) (fun k => ms.length - k) (fun _ => planRet (orElseP (if 0 ≤ sp ∧ ldAt (loadsOf c0) sp + 2 ≤ ldAt (loadsOf c0) (greatest (loadsOf c0) ms) then some (⟨3, (j : Int), 0, [], greatest (loadsOf c0) ms, sp, 0⟩ : Plan) else none) (List.findSome? (balStep ⟨c0, c1, c2, ⟨c3, c4, c5, c6, c7, c8, c9⟩, c10, c11⟩) (List.drop (i + 1) (routesOf c0))))) ?_ 1 ⟨by omega, by omega, by rw [hg0]; exact hm0r, (by and_intros <;> first | omega | rfl | (simp only [↓xP,xQ,xR,xS,flatR,reduceLT,Nat.reduceBEq,reduceAdd,reduceSub,h1,hb,h2,hb2,h4,hb4,h5,hb5,h6,hg0] <;> first | done | rfl | omega))⟩
    clear h1 hb h2 hb2 h4 hb4 h5 hb5 h6
    rintro k st ⟨hkl, hk1, hgr, h1, hb, h2, hb2, h4, hb4, h5, hb5, h6, h7, hb7, h8', h9, h10⟩ ih2
    have hgi := hgr
    simp only [inR,Bool.and_eq_true,decide_eq_true_eq] at hgi
    by_cases hk : k < ms.length
    · obtain ⟨y, hy⟩ : ∃ x, ms[k]? = some x := ⟨_, List.getElem?_eq_getElem hk⟩
      have hyr := hin y (List.mem_of_getElem? hy)
      have hgt := great_take (loads := loadsOf c0) (m0 := m0) hy
      revert h9 hgi hgr hgt
      generalize (ms.take k).foldl (greatStep (loadsOf c0)) m0 = g
      intro hgr h9 hgi hgt
      obtain ⟨n, rfl⟩ : ∃ n : Nat, g = (n : Int) := ⟨g.toNat, by omega⟩
      have hn5 : n < 5 := by omega
      have hyi := hyr
      simp only [inR,Bool.and_eq_true,decide_eq_true_eq] at hyi
      obtain ⟨m, rfl⟩ : ∃ m : Nat, y = (m : Int) := ⟨y.toNat, by omega⟩
      have hm5 : m < 5 := by omega
      have hw2 := w_succ (i := k) (by omega)
      rw [greatStep, ld_loads c0 hn5, ld_loads c0 hm5] at hgt
      by_cases e : (loadAt c0 (n : Int) : Int) < (loadAt c0 (m : Int) : Int)
      · rw [if_pos e] at hgt
        simp only [↓xP,xQ,xR,xS,flatR,reduceLT,Nat.reduceBEq,reduceAdd,reduceSub,rdx2,h1,hb,h2,hb2,h4,hb4,h5,hb5,h6,h7,hb7,h8',h9,h10,hk,hy,hw2,hn5,hm5,loads_len,List.length_map,loads_get c0 hn5,loads_get c0 hm5,iU,gt_iff_lt,e]
        exact ih2 (k + 1) _ (by omega) ⟨by omega, by omega, by rw [hgt]; exact hyr, (by and_intros <;> first | omega | rfl | (simp only [↓xP,xQ,xR,xS,flatR,reduceLT,Nat.reduceBEq,reduceAdd,reduceSub,h1,hb,h2,hb2,h4,hb4,h5,hb5,h6,h7,hb7,h8',hgt] <;> first | done | rfl | omega))⟩
      · rw [if_neg e] at hgt
        simp only [↓xP,xQ,xR,xS,flatR,reduceLT,Nat.reduceBEq,reduceAdd,reduceSub,rdx2,h1,hb,h2,hb2,h4,hb4,h5,hb5,h6,h7,hb7,h8',h9,h10,hk,hy,hw2,hn5,hm5,loads_len,List.length_map,loads_get c0 hn5,loads_get c0 hm5,iU,gt_iff_lt,e]
        exact ih2 (k + 1) _ (by omega) ⟨by omega, by omega, by rw [hgt]; exact hgr, (by and_intros <;> first | omega | rfl | (simp only [↓xP,xQ,xR,xS,flatR,reduceLT,Nat.reduceBEq,reduceAdd,reduceSub,h1,hb,h2,hb2,h4,hb4,h5,hb5,h6,h7,hb7,h8',h9,hgt] <;> first | done | rfl | omega))⟩
    · have hmt : ms.take k = ms := List.take_of_length_le (by omega)
      have hgg : ms.foldl (greatStep (loadsOf c0)) m0 = greatest (loadsOf c0) ms := by rw [greatest, hd]
      rw [hmt, hgg] at h9 hgi
      revert h9 hgi
      generalize greatest (loadsOf c0) ms = hot
      intro h9 hgi
      obtain ⟨m, rfl⟩ : ∃ m : Nat, hot = (m : Int) := ⟨hot.toNat, by omega⟩
      have hm5 : m < 5 := by omega
      have hlm := loadAt_le c0 (m : Int)
      by_cases hp : 0 ≤ sp
      · obtain ⟨p, rfl⟩ : ∃ p : Nat, sp = (p : Int) := ⟨sp.toNat, by omega⟩
        have hp5 : p < 5 := by omega
        have hlp := loadAt_le c0 (p : Int)
        have hwr : IntKind.i64.wrap ((loadAt c0 (p : Int) : Int) + 2) = (loadAt c0 (p : Int) : Int) + 2 := w64 (by omega) (by omega)
        rw [ld_loads c0 hm5, ld_loads c0 hp5]
        by_cases hge : (loadAt c0 (p : Int) : Int) + 2 ≤ (loadAt c0 (m : Int) : Int)
        · rw [if_pos ⟨hp, hge⟩]
          simp only [↓xP,xQ,xR,xS,flatR,reduceLT,Nat.reduceBEq,reduceAdd,reduceSub,rdx2,h1,hb,h2,hb2,h4,hb4,h5,hb5,h6,h7,hb7,h8',h9,h10,hk,hr,hi,Route.u,ge_iff_le,hp,hm5,hp5,loads_len,List.length_map,loads_get c0 hm5,loads_get c0 hp5,iU,hwr,hge,hw,planRet,orElseP]
        · have hc : ¬ (0 ≤ (p : Int) ∧ (loadAt c0 (p : Int) : Int) + 2 ≤ (loadAt c0 (m : Int) : Int)) := fun hc => hge hc.2
          rw [if_neg hc]
          simp only [↓xP,xQ,xR,xS,flatR,reduceLT,Nat.reduceBEq,reduceAdd,reduceSub,rdx2,h1,hb,h2,hb2,h4,hb4,h5,hb5,h6,h7,hb7,h8',h9,h10,hk,ge_iff_le,hp,hm5,hp5,loads_len,List.length_map,loads_get c0 hm5,loads_get c0 hp5,iU,hwr,hge,hw]
          exact ih (i + 1) _ (by omega) (by and_intros <;> first | omega | rfl | (simp only [↓xP,xQ,xR,xS,flatR,reduceLT,Nat.reduceBEq,reduceAdd,reduceSub,h1,hb,h2,hb2,h4,hb4,h5,hb5,hw] <;> first | done | rfl | omega))
      · have hc : ¬ (0 ≤ sp ∧ ldAt (loadsOf c0) sp + 2 ≤ ldAt (loadsOf c0) (m : Int)) := fun hc => hp hc.1
        rw [if_neg hc]
        simp only [↓xP,xQ,xR,xS,flatR,reduceLT,Nat.reduceBEq,reduceAdd,reduceSub,rdx2,h1,hb,h2,hb2,h4,hb4,h5,hb5,h6,h7,hb7,h8',h9,h10,hk,ge_iff_le,hp,hw]
        exact ih (i + 1) _ (by omega) (by and_intros <;> first | omega | rfl | (simp only [↓xP,xQ,xR,xS,flatR,reduceLT,Nat.reduceBEq,reduceAdd,reduceSub,h1,hb,h2,hb2,h4,hb4,h5,hb5,hw] <;> first | done | rfl | omega))
  · simp only [↓xP,xQ,xR,xS,flatR,reduceLT,Nat.reduceBEq,reduceAdd,reduceSub,h1,hb,h2,hb2,h4,hb4,h5,hb5,h6,hi]
    rw [List.drop_of_length_le (by omega)]; rfl
theorem dead3 (st : St) (d : Nat) : st.dead d 3 = (isNo (st.o (.loc d 0)) && (isNo (st.o (.loc d 1)) && isNo (st.o (.loc d 2)))) := by simp [St.dead, isNo, List.range_succ, Bool.and_assoc]
theorem app3 (st : St) (d : Nat) (v : D) (a b c : Id) (x y z : Obj) (rd : List Id) : Fx.app ⟨some d, v, [(a, x), (b, y), (c, z)], rd⟩ st = (((st.obj a (some x)).obj b (some y)).obj c (some z)).put d v := rfl
theorem law_FnExactBalanceMove (us : List U) (hl : us.length = 12) (ht : ∀ (j : Nat) ty u, [Ty.sl [.b, .s, .s, .sl [.s, .i .i64], .sl [.i .i64, .i .i64, .i .i64], .b, .s, .i .i64, .sl [.i .i64], .b, .sl [.i .i64, .sl [.i .i64], .b, .b, .sl [.i .i64, .i .i64, .i .i64, .s, .i .i64, .i .i64]], .sl [.b], .sl [.i .i64, .i .i64, .i .i64, .i .i64, .sl [.i .i64], .b, .sl [.i .i64, .i .i64, .i .i64, .s, .i .i64, .i .i64]], .sl [.i .i64, .i .i64, .i .i64, .s, .i .i64, .i .i64, .i .i64]], .sl [.sl [.i .i64, .s, .s], .i .i64, .b, .i .i64, .s, .i .i64, .i .i64, .i .i64], .sl [.i .i64, .i .i64, .i .i64, .s, .i .i64, .i .i64, .i .i64, .i .i64, .i .i64], .i .i64, .i .i64, .i .i64, .s, .i .i64, .i .i64, .i .i64, .i .i64, .i .i64][j]? = some ty → us[j]? = some u → UT ty u) : EE F 5 [.ag (us.map .u)] [] = ok1 (B true) := by
  obtain ⟨⟨c0, c1, c2, ⟨c3, c4, c5, c6, c7, c8, c9⟩, c10, c11⟩, rfl, hf⟩ := Cluster.of us hl ht
  rw [R5, b5]
  simp only [↓xP,xQ,xR,xS,flatR,reduceLT,Nat.reduceBEq,reduceAdd,reduceSub,Cluster.u,List.map,szCluster_ok c0 c1 c2 c3 c4 c5 c6 c7 c8 c9 c10 c11 hf]
  refine sel_split (fun h => ?_) (fun h => ?_)
  · rfl
  simp only [decide_eq_false_iff_not] at h
  have hs := (szCluster_le _ hf 1048576 (by omega) (by omega)).2 (by omega)
  have hi := balanceMove_impl c0 c1 c2 c3 c4 c5 c6 c7 c8 c9 c10 c11 hs
  have hsp := balanceMove_spec c0 c1 c2 c3 c4 c5 c6 c7 c8 c9 c10 c11 hs
  cases hb : balance ⟨c0, c1, c2, ⟨c3, c4, c5, c6, c7, c8, c9⟩, c10, c11⟩
  · simp only [hb,planRet] at hi hsp
    simp only [↓xP,xQ,xR,xS,flatR,reduceLT,Nat.reduceBEq,reduceAdd,reduceSub,rdx,rdx2,ofR,dead3,app3,List.getElem?_nil,toCluster_ok c0 c1 c2 c3 c4 c5 c6 c7 c8 c9 c10 c11 hs,hi,hsp,eqCluster_ok c0 c1 c2 c3 c4 c5 c6 c7 c8 c9 c10 c11 hs,eqPlan_ok,map_all,List.length_map]
  · simp only [hb,planRet] at hi hsp
    simp only [↓xP,xQ,xR,xS,flatR,reduceLT,Nat.reduceBEq,reduceAdd,reduceSub,rdx,rdx2,ofR,dead3,app3,List.getElem?_nil,toCluster_ok c0 c1 c2 c3 c4 c5 c6 c7 c8 c9 c10 c11 hs,hi,hsp,eqCluster_ok c0 c1 c2 c3 c4 c5 c6 c7 c8 c9 c10 c11 hs,eqPlan_ok,map_all,List.length_map]
end Go.Proofs.YtmfjkbbmhaofbaaGreatV
