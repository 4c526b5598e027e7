/- What the law's functions compute. No condition. -/
import Derived.Test.YthpdgdhnadljiaaGreatDoorF
import Derived.Test.YthpdgdhnadljiaaGreatDoorD
import Derived.Laws.StructEq
set_option linter.all false
namespace Go.Em
open Go
set_option maxRecDepth 100000 in
theorem awC : callFn EC (exec EC 100000) 7 [] [] = some { v := .im (.sc (.bool true)) } := by kernel_rfl
theorem awEv : callFn EC (ev EC) 7 [] [] = some { v := .im (.sc (.bool true)) } := callFn_exec awC
end Go.Em
namespace Go.Em
open Go
set_option maxRecDepth 20000

/-- A variable of a level; a level; a term. -/
inductive VarI : IV → Prop
  | mk (i p : Int) : VarI (.agg [.sc (.int .i64 i), .sc (.int .i64 p)])
inductive LevI : IV → Prop
  | mk (c : Int) (vs : List IV) (k : SK) (hv : ∀ v ∈ vs, VarI v) (hn : vs.length ≤ maxLen) : LevI (.agg [.sc (.int .i64 c), .sl vs k])
inductive TrmI : IV → Prop
  | mk (k i : Int) (s : ByteArray) (ls ks : List IV) (lk kk : SK) (hk : ∀ t ∈ ks, TrmI t) (hn : ks.length ≤ maxLen) (hl : ∀ l ∈ ls, LevI l) (hm : ls.length ≤ maxLen) (hs : s.size ≤ maxLen) :
      TrmI (.agg [.sc (.int .i64 k), .sc (.int .i64 i), .sc (.string s), .sl ls lk, .sl ks kk])

mutual
/-- How many nodes a term has. -/
def szOf : IV → Int
  | .agg [_, _, _, _, .sl ks _] => szL ks 1
  | _ => 0
def szL : List IV → Int → Int
  | [], a => a
  | x :: r, a => szL r (wr (a + szOf x))
end

theorem szL_snoc : ∀ (l : List IV) (a : Int) (x : IV), szL (l ++ [x]) a = wr (szL l a + szOf x)
  | [], a, x => by simp [szL]
  | y :: l, a, x => by
    rw [List.cons_append, szL, szL]
    exact szL_snoc l _ x

theorem take_snoc {α : Type} {l : List α} {i : Nat} {x : α} (h : l[i]? = some x) : l.take (i + 1) = l.take i ++ [x] := by
  rw [List.take_add_one, h]; rfl

theorem maxLen_lt : maxLen < 9223372036854775808 := by decide

theorem sz_spec {v : IV} (hv : TrmI v) : ∀ h, callFn EC (ev EC) 6 [.im v] h = some ⟨.im (.sc (.int .i64 (szOf v))), .none, .none, false⟩ := by
  induction hv with
  | mk k i s ls ks lk kk hk hn hl hm hs ih =>
  intro h
  refine callFn_P (F := IR.f6) rfl rfl rfl rfl rfl rfl rfl rfl ?_
  rw [szOf]
  simp only [strip_agg, List.map_cons, List.map_nil, flat_sc, flat_slK]
  generalize flatK ls lk = lk'
  generalize flatK ks kk = kk'
  unfold IR.f6
  simp only [id WWd, IR.o, IR.e, Nat.reduceBEq, Nat.reduceAdd, reduceCtorEq, paramTm, List.map_cons, List.map_nil, forall_const, Option.map_some, Option.map_none, implies_true]
  refine W_for ks.length (fun j => ⟨[(2, .im (.sc (.int .i64 0))), (3, .im (.sc (.int .i64 (szL (ks.take j) 1)))), (4, .im (.sc (.int .i64 (j : Int))))], [(1, [.im (.sc (.int .i64 k)), .im (.sc (.int .i64 i)), .im (.sc (.string s)), .im (.sl ls lk'), .im (.sl ks kk')])], []⟩) ?_ ?_ ?_
  · simp only [id WWd, IR.o, IR.e, Nat.reduceBEq, Nat.reduceAdd, reduceCtorEq, paramTm, List.map_cons, List.map_nil, forall_const, Option.map_some, Option.map_none, implies_true]
    rfl
  · intro j hj
    obtain ⟨x, hx⟩ : ∃ x, ks[j]? = some x := ⟨_, List.getElem?_eq_getElem hj⟩
    have hxm := List.mem_of_getElem? hx
    have hc := ih x hxm
    have ht := take_snoc hx
    have hlt : (j : Int) < ks.length := by omega
    have hw : wr ((j : Int) + 1) = ((j + 1 : Nat) : Int) := wr_id (by omega) (by have := maxLen_lt; omega)
    obtain ⟨k1, i1, s1, ls1, ks1, lk1, kk1, _, _, _, _, _⟩ := hk x hxm
    have e2 := idx_sl 5 ks kk' .i64 j _ hx rfl
    simp only [IV.cells] at e2
    simp only [id WWd, IR.o, IR.e, Nat.reduceBEq, Nat.reduceAdd, reduceCtorEq, paramTm, List.map_cons, List.map_nil, forall_const, Option.map_some, Option.map_none, implies_true, e2, hc, hlt]
    rw [ht, szL_snoc, hw]
  · simp only [id WWd, IR.o, IR.e, Nat.reduceBEq, Nat.reduceAdd, reduceCtorEq, paramTm, List.map_cons, List.map_nil, forall_const, Option.map_some, Option.map_none, implies_true]
    rw [List.take_length]

mutual
/-- How deep a term is. -/
def dpOf : IV → Int
  | .agg [_, _, _, _, .sl ks _] => wr (dpL ks 0 + 1)
  | _ => 0
def dpL : List IV → Int → Int
  | [], a => a
  | x :: r, a => dpL r (if dpOf x > a then dpOf x else a)
end

theorem dpL_snoc : ∀ (l : List IV) (a : Int) (x : IV), dpL (l ++ [x]) a = if dpOf x > dpL l a then dpOf x else dpL l a
  | [], a, x => by simp [dpL]
  | y :: l, a, x => by
    rw [List.cons_append, dpL, dpL]
    exact dpL_snoc l _ x

theorem dp_ref {v : IV} (hv : TrmI v) : ∀ h, callFn EC (ev EC) 56 [.im v] h = some ⟨.im (.sc (.int .i64 (dpOf v))), .none, .none, false⟩ := by
  induction hv with
  | mk k i s ls ks lk kk hk hn hl hm hs ih =>
  intro h
  refine callFn_P (F := IR.f56) rfl rfl rfl rfl rfl rfl rfl rfl ?_
  rw [dpOf]
  simp only [strip_agg, List.map_cons, List.map_nil, flat_sc, flat_slK]
  generalize flatK ls lk = lk'
  generalize flatK ks kk = kk'
  unfold IR.f56
  simp only [id WWd, IR.o, IR.e, Nat.reduceBEq, Nat.reduceAdd, reduceCtorEq, paramTm, List.map_cons, List.map_nil, forall_const, Option.map_some, Option.map_none, implies_true]
  refine W_for ks.length (fun j => ⟨[(2, .im (.sc (.int .i64 0))), (3, .im (.sc (.int .i64 (dpL (ks.take j) 0)))), (4, .im (.sc (.int .i64 (j : Int))))], [(1, [.im (.sc (.int .i64 k)), .im (.sc (.int .i64 i)), .im (.sc (.string s)), .im (.sl ls lk'), .im (.sl ks kk')])], []⟩) ?_ ?_ ?_
  · simp only [id WWd, IR.o, IR.e, Nat.reduceBEq, Nat.reduceAdd, reduceCtorEq, paramTm, List.map_cons, List.map_nil, forall_const, Option.map_some, Option.map_none, implies_true]
    rfl
  · intro j hj
    obtain ⟨x, hx⟩ : ∃ x, ks[j]? = some x := ⟨_, List.getElem?_eq_getElem hj⟩
    have hxm := List.mem_of_getElem? hx
    have hc := ih x hxm
    have ht := take_snoc hx
    have hlt : (j : Int) < ks.length := by omega
    have hw : wr ((j : Int) + 1) = ((j + 1 : Nat) : Int) := wr_id (by omega) (by have := maxLen_lt; omega)
    obtain ⟨k1, i1, s1, ls1, ks1, lk1, kk1, _, _, _, _, _⟩ := hk x hxm
    have e2 := idx_sl 5 ks kk' .i64 j _ hx rfl
    simp only [IV.cells] at e2
    simp only [id WWd, IR.o, IR.e, Nat.reduceBEq, Nat.reduceAdd, reduceCtorEq, paramTm, List.map_cons, List.map_nil, forall_const, Option.map_some, Option.map_none, implies_true, e2, hc, hlt]
    rw [ht, dpL_snoc, hw]
  · simp only [id WWd, IR.o, IR.e, Nat.reduceBEq, Nat.reduceAdd, reduceCtorEq, paramTm, List.map_cons, List.map_nil, forall_const, Option.map_some, Option.map_none, implies_true]
    rw [List.take_length]

theorem dp_spec {v : IV} (hv : TrmI v) : ∀ h, callFn EC (ev EC) 54 [.im v] h = some ⟨.im (.sc (.int .i64 (dpOf v))), .none, .none, false⟩ := by
  induction hv with
  | mk k i s ls ks lk kk hk hn hl hm hs ih =>
  intro h
  refine callFn_P (F := IR.f54) rfl rfl rfl rfl rfl rfl rfl rfl ?_
  rw [dpOf]
  simp only [strip_agg, List.map_cons, List.map_nil, flat_sc, flat_slK]
  generalize flatK ls lk = lk'
  generalize flatK ks kk = kk'
  unfold IR.f54
  simp only [id WWd, IR.o, IR.e, Nat.reduceBEq, Nat.reduceAdd, reduceCtorEq, paramTm, List.map_cons, List.map_nil, forall_const, Option.map_some, Option.map_none, implies_true]
  refine W_for ks.length (fun j => ⟨[(2, .im (.sc (.int .i64 0))), (3, .im (.sc (.int .i64 (dpL (ks.take j) 0)))), (7, .im (.sl ks kk')), (8, .im (.sc (.int .i64 (ks.length : Int)))), (9, .im (.sc (.int .i64 (j : Int))))], [], []⟩) ?_ ?_ ?_
  · simp only [id WWd, IR.o, IR.e, Nat.reduceBEq, Nat.reduceAdd, reduceCtorEq, paramTm, List.map_cons, List.map_nil, forall_const, Option.map_some, Option.map_none, implies_true]
    rfl
  · intro j hj
    obtain ⟨x, hx⟩ : ∃ x, ks[j]? = some x := ⟨_, List.getElem?_eq_getElem hj⟩
    have hxm := List.mem_of_getElem? hx
    have hc := ih x hxm
    have ht := take_snoc hx
    have hlt : (j : Int) < ks.length := by omega
    have hw : wr ((j : Int) + 1) = ((j + 1 : Nat) : Int) := wr_id (by omega) (by have := maxLen_lt; omega)
    obtain ⟨k1, i1, s1, ls1, ks1, lk1, kk1, _, _, _, _, _⟩ := hk x hxm
    have e2 := idx_sl 5 ks kk' .i64 j _ hx rfl
    simp only [IV.cells] at e2
    simp only [id WWd, IR.o, IR.e, Nat.reduceBEq, Nat.reduceAdd, reduceCtorEq, paramTm, List.map_cons, List.map_nil, forall_const, Option.map_some, Option.map_none, implies_true, e2, hc, hlt]
    rw [ht, dpL_snoc, hw]
  · simp only [id WWd, IR.o, IR.e, Nat.reduceBEq, Nat.reduceAdd, reduceCtorEq, paramTm, List.map_cons, List.map_nil, forall_const, Option.map_some, Option.map_none, implies_true]
    rw [List.take_length]
end Go.Em
namespace Go.Em
open Go
set_option maxRecDepth 100000

theorem pr_bind {P : Program} {α β : Type} (x : Sem α) (f : α → Sem β) : pureRun P (x >>= f) = match pureRun P x with
    | some a => pureRun P (f a)
    | none => none := by
  induction x with
  | pure a => rfl
  | program k ih => exact ih P
  | _ => rfl

theorem pr_pure {P : Program} {α : Type} (a : α) : pureRun P (pure a : Sem α) = some a := rfl
theorem pr_ite {P : Program} {α : Type} {c : Prop} [Decidable c] (x y : Sem α) : pureRun P (if c then x else y) = if c then pureRun P x else pureRun P y := by split <;> rfl

theorem pr_struct {P : Program} (d : Nat) (t : TypeId) (fs : Array Field) (xs ys : Array Value) (ht : pureRun P (underlying t) = some (.struct fs)) (hp : P.stoodInHeld t = false) :
    pureRun P (Op.equalIn (d + 1) t (.agg xs) (.agg ys)) = pureRun P (Op.eqFields d xs ys fs.toList) := by
  have hprog : pureRun P (program : Sem Program) = some P := rfl
  simp only [Op.equalIn, pr_bind, ht, hprog, hp, Bool.false_eq_true, if_false]
  rw [← Array.forIn_toList]
  generalize fs.toList = fs
  clear ht
  induction fs with
  | nil => simp [Op.eqFields]; rfl
  | cons f fs ih =>
    simp only [List.forIn_cons, Op.eqFields, pr_bind, pr_ite]
    by_cases hn : f.name ≠ "_"
    · simp only [if_pos hn]
      cases pureRun P (part f.type xs f.offset) with
      | none => rfl
      | some a =>
        simp only
        cases pureRun P (part f.type ys f.offset) with
        | none => rfl
        | some b =>
          simp only
          cases pureRun P (Op.equalIn d f.type a b) with
          | none => rfl
          | some r =>
            cases r
            · simp only [Bool.not_false, if_true, pr_pure]
            · simp only [Bool.not_true, Bool.false_eq_true, if_false, pr_pure]
              exact ih
    · simp only [if_neg hn, pr_pure]
      exact ih

theorem bool_eql (cx cy b : Bool) : oBin EC.P .eql 4 cx cy (.im (.sc (.bool b))) (.im (.sc (.bool b))) = some ⟨.im (.sc (.bool true)), .none, .none, false⟩ := by
  cases cx <;> cases cy <;> cases b <;> kernel_rfl

theorem var_neq (cx cy : Bool) (i p : Int) : oBin EC.P .neq 167 cx cy (.im (.agg [.sc (.int .i64 i), .sc (.int .i64 p)])) (.im (.agg [.sc (.int .i64 i), .sc (.int .i64 p)])) = some ⟨.im (.sc (.bool false)), .none, .none, false⟩ := by
  have hu : pureRun EC.P (underlying 167) = some (.struct #[{ name := "Index", type := 3, offset := 0, embedded := false, tag := "", pkgPath := "", byteOffset := 0 }, { name := "Plus", type := 3, offset := 1, embedded := false, tag := "", pkgPath := "", byteOffset := 8 }]) := by kernel_rfl
  have hg : ∀ a b, pureRun EC.P (eqGuard .neq 167 a b (.agg #[.int .i64 i, .int .i64 p]) (.agg #[.int .i64 i, .int .i64 p])) = some () := fun a b => by kernel_rfl
  have e3 : ∀ n : Int, pureRun EC.P (Op.equalIn 9999 3 (.int .i64 n) (.int .i64 n)) = some true := fun n => by
    have : pureRun EC.P (Op.equalIn 9999 3 (.int .i64 n) (.int .i64 n)) = some (n == n) := by kernel_rfl
    rw [this, beq_self_eq_true]
  have he : pureRun EC.P (Op.equalIn 10000 167 (.agg #[.int .i64 i, .int .i64 p]) (.agg #[.int .i64 i, .int .i64 p])) = some true := by
    rw [pr_struct 9999 167 _ _ _ hu (by kernel_rfl)]
    have p0 : pureRun EC.P (part 3 #[Value.int .i64 i, .int .i64 p] 0) = some (.int .i64 i) := by kernel_rfl
    have p1 : pureRun EC.P (part 3 #[Value.int .i64 i, .int .i64 p] 1) = some (.int .i64 p) := by kernel_rfl
    simp [Op.eqFields, pr_bind, p0, p1, e3, pr_pure, pr_ite]
  show (match binSlow EC.P .neq 167 cx cy (.agg #[.int .i64 i, .int .i64 p]) (.agg #[.int .i64 i, .int .i64 p]) with | some v => _ | none => none) = _
  have hb : binSlow EC.P .neq 167 cx cy (.agg #[.int .i64 i, .int .i64 p]) (.agg #[.int .i64 i, .int .i64 p]) = some (.bool false) := by
    unfold binSlow
    rw [pr_bind, hg]
    show pureRun EC.P (do pure (Value.bool (!(← Op.equalIn 10000 167 (.agg #[.int .i64 i, .int .i64 p]) (.agg #[.int .i64 i, .int .i64 p]))))) = _
    rw [pr_bind, he]
    rfl
  rw [hb]
  rfl
end Go.Em
namespace Go.Em
open Go
set_option maxRecDepth 20000

theorem sm_lvl {v : IV} (hv : LevI v) : ∀ h, callFn EC (ev EC) 59 [.im v, .im v] h = some ⟨.im (.sc (.bool true)), .none, .none, false⟩ := by
  obtain ⟨c, vs, k, hv, hn⟩ := hv
  intro h
  refine callFn_P (F := IR.f59) rfl rfl rfl rfl rfl rfl rfl rfl ?_
  simp only [strip_agg, List.map_cons, List.map_nil, flat_sc, flat_slK]
  generalize flatK vs k = k'
  unfold IR.f59
  simp only [id WWd, IR.o, IR.e, Nat.reduceBEq, Nat.reduceAdd, reduceCtorEq, paramTm, List.map_cons, List.map_nil, forall_const, Option.map_some, Option.map_none, implies_true]
  refine W_for vs.length (fun j => ⟨[(4, .im (.sc (.bool false))), (5, .im (.sc (.int .i64 (j : Int))))], [(2, [.im (.sc (.int .i64 c)), .im (.sl vs k')]), (3, [.im (.sc (.int .i64 c)), .im (.sl vs k')])], []⟩) ?_ ?_ ?_
  · simp only [id WWd, IR.o, IR.e, Nat.reduceBEq, Nat.reduceAdd, reduceCtorEq, paramTm, List.map_cons, List.map_nil, forall_const, Option.map_some, Option.map_none, implies_true]
    rfl
  · intro j hj
    obtain ⟨x, hx⟩ : ∃ x, vs[j]? = some x := ⟨_, List.getElem?_eq_getElem hj⟩
    have hxm := List.mem_of_getElem? hx
    have hlt : (j : Int) < vs.length := by omega
    have hw : wr ((j : Int) + 1) = ((j + 1 : Nat) : Int) := wr_id (by omega) (by have := maxLen_lt; omega)
    obtain ⟨i1, p1⟩ := hv x hxm
    have e2 := idx_sl 2 vs k' .i64 j _ hx rfl
    simp only [IV.cells] at e2
    simp only [id WWd, IR.o, IR.e, Nat.reduceBEq, Nat.reduceAdd, reduceCtorEq, paramTm, List.map_cons, List.map_nil, forall_const, Option.map_some, Option.map_none, implies_true, hlt]
    refine W_draw rfl ?_
    simp only [id WWd, IR.o, IR.e, Nat.reduceBEq, Nat.reduceAdd, reduceCtorEq, paramTm, List.map_cons, List.map_nil, forall_const, Option.map_some, Option.map_none, implies_true, e2, var_neq, hw]
  · simp only [id WWd, IR.o, IR.e, Nat.reduceBEq, Nat.reduceAdd, reduceCtorEq, paramTm, List.map_cons, List.map_nil, forall_const, Option.map_some, Option.map_none, implies_true]


theorem sm_lvls {vs : List IV} {k k2 : SK} (hv : ∀ v ∈ vs, LevI v) (hn : vs.length ≤ maxLen) : ∀ h, callFn EC (ev EC) 43 [.im (.sl vs k), .im (.sl vs k2)] h = some ⟨.im (.sc (.bool true)), .none, .none, false⟩ := by
  intro h
  refine callFn_P (F := IR.f43) rfl rfl rfl rfl rfl rfl rfl rfl ?_
  simp only [strip_sl]
  generalize flatK vs k = k'
  generalize flatK vs k2 = k2'
  unfold IR.f43
  simp only [id WWd, IR.o, IR.e, Nat.reduceBEq, Nat.reduceAdd, reduceCtorEq, paramTm, List.map_cons, List.map_nil, forall_const, Option.map_some, Option.map_none, implies_true]
  refine W_for vs.length (fun j => ⟨[(0, .im (.sl vs k')), (1, .im (.sl vs k2')), (4, .im (.sc (.bool false))), (5, .im (.sc (.int .i64 (j : Int))))], [], []⟩) ?_ ?_ ?_
  · simp only [id WWd, IR.o, IR.e, Nat.reduceBEq, Nat.reduceAdd, reduceCtorEq, paramTm, List.map_cons, List.map_nil, forall_const, Option.map_some, Option.map_none, implies_true]
    rfl
  · intro j hj
    obtain ⟨x, hx⟩ : ∃ x, vs[j]? = some x := ⟨_, List.getElem?_eq_getElem hj⟩
    have hxm := List.mem_of_getElem? hx
    have hlt : (j : Int) < vs.length := by omega
    have hw : wr ((j : Int) + 1) = ((j + 1 : Nat) : Int) := wr_id (by omega) (by have := maxLen_lt; omega)
    have hc := sm_lvl (hv x hxm)
    obtain ⟨c1, vs1, k1, _, _⟩ := hv x hxm
    have e2 := idx_sl 2 vs k' .i64 j _ hx rfl
    have e3 := idx_sl 2 vs k2' .i64 j _ hx rfl
    simp only [IV.cells] at e2 e3
    simp only [id WWd, IR.o, IR.e, Nat.reduceBEq, Nat.reduceAdd, reduceCtorEq, paramTm, List.map_cons, List.map_nil, forall_const, Option.map_some, Option.map_none, implies_true, hlt]
    refine W_draw rfl ?_
    simp only [id WWd, IR.o, IR.e, Nat.reduceBEq, Nat.reduceAdd, reduceCtorEq, paramTm, List.map_cons, List.map_nil, forall_const, Option.map_some, Option.map_none, implies_true, e2, e3, hc, hw]
  · simp only [id WWd, IR.o, IR.e, Nat.reduceBEq, Nat.reduceAdd, reduceCtorEq, paramTm, List.map_cons, List.map_nil, forall_const, Option.map_some, Option.map_none, implies_true]

theorem sm_trm {v : IV} (hv : TrmI v) : ∀ h, callFn EC (ev EC) 16 [.im v, .im v] h = some ⟨.im (.sc (.bool true)), .none, .none, false⟩ := by
  induction hv with
  | mk k i s ls ks lk kk hk hn hl hm hs ih =>
  intro h
  refine callFn_P (F := IR.f16) rfl rfl rfl rfl rfl rfl rfl rfl ?_
  simp only [strip_agg, List.map_cons, List.map_nil, flat_sc, flat_slK]
  generalize flatK ls lk = lk'
  generalize flatK ks kk = kk'
  unfold IR.f16
  simp only [id WWd, IR.o, IR.e, Nat.reduceBEq, Nat.reduceAdd, reduceCtorEq, paramTm, List.map_cons, List.map_nil, forall_const, Option.map_some, Option.map_none, implies_true, bytesEq_refl, sm_lvls hl hm]
  refine W_for ks.length (fun j => ⟨[(4, .im (.sc (.bool false))), (5, .im (.sc (.int .i64 (j : Int))))], [(2, [.im (.sc (.int .i64 k)), .im (.sc (.int .i64 i)), .im (.sc (.string s)), .im (.sl ls lk'), .im (.sl ks kk')]), (3, [.im (.sc (.int .i64 k)), .im (.sc (.int .i64 i)), .im (.sc (.string s)), .im (.sl ls lk'), .im (.sl ks kk')])], []⟩) ?_ ?_ ?_
  · simp only [id WWd, IR.o, IR.e, Nat.reduceBEq, Nat.reduceAdd, reduceCtorEq, paramTm, List.map_cons, List.map_nil, forall_const, Option.map_some, Option.map_none, implies_true]
    rfl
  · intro j hj
    obtain ⟨x, hx⟩ : ∃ x, ks[j]? = some x := ⟨_, List.getElem?_eq_getElem hj⟩
    have hxm := List.mem_of_getElem? hx
    have hc := ih x hxm
    have hlt : (j : Int) < ks.length := by omega
    have hw : wr ((j : Int) + 1) = ((j + 1 : Nat) : Int) := wr_id (by omega) (by have := maxLen_lt; omega)
    obtain ⟨k1, i1, s1, ls1, ks1, lk1, kk1, _, _, _, _, _⟩ := hk x hxm
    have e2 := idx_sl 5 ks kk' .i64 j _ hx rfl
    simp only [IV.cells] at e2
    simp only [id WWd, IR.o, IR.e, Nat.reduceBEq, Nat.reduceAdd, reduceCtorEq, paramTm, List.map_cons, List.map_nil, forall_const, Option.map_some, Option.map_none, implies_true, hlt]
    refine W_draw rfl ?_
    simp only [id WWd, IR.o, IR.e, Nat.reduceBEq, Nat.reduceAdd, reduceCtorEq, paramTm, List.map_cons, List.map_nil, forall_const, Option.map_some, Option.map_none, implies_true, e2, hc, hw]
  · simp only [id WWd, IR.o, IR.e, Nat.reduceBEq, Nat.reduceAdd, reduceCtorEq, paramTm, List.map_cons, List.map_nil, forall_const, Option.map_some, Option.map_none, implies_true]

theorem sm_names {vs : List IV} {k k2 : SK} (hv : ∀ v ∈ vs, ∃ s, v = .sc (.string s)) (hn : vs.length ≤ maxLen) : ∀ h, callFn EC (ev EC) 21 [.im (.sl vs k), .im (.sl vs k2)] h = some ⟨.im (.sc (.bool true)), .none, .none, false⟩ := by
  intro h
  refine callFn_P (F := IR.f21) rfl rfl rfl rfl rfl rfl rfl rfl ?_
  simp only [strip_sl]
  generalize flatK vs k = k'
  generalize flatK vs k2 = k2'
  unfold IR.f21
  simp only [id WWd, IR.o, IR.e, Nat.reduceBEq, Nat.reduceAdd, reduceCtorEq, paramTm, List.map_cons, List.map_nil, forall_const, Option.map_some, Option.map_none, implies_true]
  refine W_for vs.length (fun j => ⟨[(0, .im (.sl vs k')), (1, .im (.sl vs k2')), (4, .im (.sc (.bool false))), (5, .im (.sc (.int .i64 (j : Int))))], [], []⟩) ?_ ?_ ?_
  · simp only [id WWd, IR.o, IR.e, Nat.reduceBEq, Nat.reduceAdd, reduceCtorEq, paramTm, List.map_cons, List.map_nil, forall_const, Option.map_some, Option.map_none, implies_true]
    rfl
  · intro j hj
    obtain ⟨x, hx⟩ : ∃ x, vs[j]? = some x := ⟨_, List.getElem?_eq_getElem hj⟩
    have hxm := List.mem_of_getElem? hx
    have hlt : (j : Int) < vs.length := by omega
    have hw : wr ((j : Int) + 1) = ((j + 1 : Nat) : Int) := wr_id (by omega) (by have := maxLen_lt; omega)
    obtain ⟨s1, rfl⟩ := hv x hxm
    have e2 := idx_sl 1 vs k' .i64 j _ hx rfl
    have e3 := idx_sl 1 vs k2' .i64 j _ hx rfl
    simp only [IV.cells] at e2 e3
    simp only [id WWd, IR.o, IR.e, Nat.reduceBEq, Nat.reduceAdd, reduceCtorEq, paramTm, List.map_cons, List.map_nil, forall_const, Option.map_some, Option.map_none, implies_true, hlt]
    refine W_draw rfl ?_
    simp only [id WWd, IR.o, IR.e, Nat.reduceBEq, Nat.reduceAdd, reduceCtorEq, paramTm, List.map_cons, List.map_nil, forall_const, Option.map_some, Option.map_none, implies_true, e2, e3, bytesEq_refl, hw]
  · simp only [id WWd, IR.o, IR.e, Nat.reduceBEq, Nat.reduceAdd, reduceCtorEq, paramTm, List.map_cons, List.map_nil, forall_const, Option.map_some, Option.map_none, implies_true]
end Go.Em
namespace Go.Em
open Go
set_option maxRecDepth 20000

theorem bool_eq {a b : Bool} (h : b = a) : some (AV.im (IV.sc (Value.bool a))) = some (AV.im (IV.sc (Value.bool b))) := by rw [h]

/-- A letter or an underscore. -/
def letP (c : Int) : Prop := (97 ≤ c ∧ c ≤ 122) ∨ (65 ≤ c ∧ c ≤ 90) ∨ c = 95
instance (c : Int) : Decidable (letP c) := by unfold letP; infer_instance

theorem let_spec (c : Int) : ∀ h, callFn EC (ev EC) 154 [.im (.sc (.int .u8 c))] h = some ⟨.im (.sc (.bool (decide (letP c)))), .none, .none, false⟩ := by
  intro h
  refine callFn_P (F := IR.f154) rfl rfl rfl rfl rfl rfl rfl rfl ?_
  unfold IR.f154
  simp only [id WWd, IR.o, IR.e, Nat.reduceBEq, Nat.reduceAdd, reduceCtorEq, paramTm, List.map_cons, List.map_nil, forall_const, Option.map_some, Option.map_none, implies_true]
  repeat' (first | apply And.intro | intro _)
  all_goals
    refine bool_eq ?_
    first
      | exact decide_eq_true (by unfold letP; omega)
      | exact decide_eq_false (by unfold letP; omega)
theorem let_ref (c : Int) : ∀ h, callFn EC (ev EC) 156 [.im (.sc (.int .u8 c))] h = some ⟨.im (.sc (.bool (decide (letP c)))), .none, .none, false⟩ := by
  intro h
  refine callFn_P (F := IR.f156) rfl rfl rfl rfl rfl rfl rfl rfl ?_
  unfold IR.f156
  simp only [id WWd, IR.o, IR.e, Nat.reduceBEq, Nat.reduceAdd, reduceCtorEq, paramTm, List.map_cons, List.map_nil, forall_const, Option.map_some, Option.map_none, implies_true]
  repeat' (first | apply And.intro | intro _)
  all_goals
    refine bool_eq ?_
    first
      | exact decide_eq_true (by unfold letP; omega)
      | exact decide_eq_false (by unfold letP; omega)

/-- The rest of a name; 'b': whether a part of it begins. -/
def nameL : List UInt8 → Bool → Bool
  | [], b => !b
  | c :: r, b => if letP (c.toNat : Int) then nameL r false else if b = true then false else if (c.toNat : Int) = 46 then nameL r true else
      if ((c.toNat : Int) < 48 ∨ 57 < (c.toNat : Int)) ∧ (c.toNat : Int) ≠ 39 then false else nameL r b
def nameB (s : ByteArray) : Bool := nameL s.data.toList true && decide ((s.size : Int) ≤ 64)

theorem drop_get {α : Type} {l : List α} {j : Nat} {x : α} (h : l[j]? = some x) : l.drop j = x :: l.drop (j + 1) := by
  obtain ⟨h1, h2⟩ := List.getElem?_eq_some_iff.1 h
  rw [List.drop_eq_getElem_cons h1, h2]

theorem name_spec (s : ByteArray) (hs : s.size ≤ maxLen) : ∀ h, callFn EC (ev EC) 100 [.im (.sc (.string s))] h = some ⟨.im (.sc (.bool (nameB s))), .none, .none, false⟩ := by
  intro h
  refine callFn_P (F := IR.f100) rfl rfl rfl rfl rfl rfl rfl rfl ?_
  have hsz : s.data.toList.length = s.size := rfl
  unfold IR.f100
  simp only [id WWd, IR.o, IR.e, Nat.reduceBEq, Nat.reduceAdd, reduceCtorEq, paramTm, List.map_cons, List.map_nil, forall_const, Option.map_some, Option.map_none, implies_true]
  refine W_forI s.size (fun j b => ⟨[(0, .im (.sc (.string s))), (2, .im (.sc (.bool false))), (3, .im (.sc (.bool b))), (7, .im (.sc (.int .i64 (s.size : Int)))), (8, .im (.sc (.int .i64 (j : Int))))], [], []⟩) (fun j b => nameL s.data.toList true = nameL (s.data.toList.drop j) b) true ?_ rfl ?_ ?_
  · simp only [id WWd, IR.o, IR.e, Nat.reduceBEq, Nat.reduceAdd, reduceCtorEq, paramTm, List.map_cons, List.map_nil, forall_const, Option.map_some, Option.map_none, implies_true]
    rfl
  · intro j b hj hi
    obtain ⟨x, hx⟩ : ∃ x, s.data.toList[j]? = some x := ⟨_, List.getElem?_eq_getElem (by omega)⟩
    have hlt : (j : Int) < s.size := by omega
    have hw : wr ((j : Int) + 1) = ((j + 1 : Nat) : Int) := wr_id (by omega) (by have := maxLen_lt; omega)
    have e2 := idx_str 1 false s .i64 j _ hx
    rw [drop_get hx, nameL] at hi
    by_cases hl : letP (x.toNat : Int)
    · rw [if_pos hl] at hi
      simp only [id WWd, IR.o, IR.e, Nat.reduceBEq, Nat.reduceAdd, reduceCtorEq, paramTm, List.map_cons, List.map_nil, forall_const, Option.map_some, Option.map_none, implies_true, hlt, e2, let_spec, hl, decide_true, hw]
      exact ⟨false, rfl, hi⟩
    · rw [if_neg hl] at hi
      cases b with
      | true =>
        rw [if_pos rfl] at hi
        simp only [id WWd, IR.o, IR.e, Nat.reduceBEq, Nat.reduceAdd, reduceCtorEq, paramTm, List.map_cons, List.map_nil, forall_const, Option.map_some, Option.map_none, implies_true, hlt, e2, let_spec, hl, decide_false]
        simp only [nameB, hi, Bool.false_and]
      | false =>
        rw [if_neg (by simp)] at hi
        simp only [id WWd, IR.o, IR.e, Nat.reduceBEq, Nat.reduceAdd, reduceCtorEq, paramTm, List.map_cons, List.map_nil, forall_const, Option.map_some, Option.map_none, implies_true, hlt, e2, let_spec, hl, decide_false, hw]
        repeat' (first | apply And.intro | intro _)
        all_goals first
          | exact ⟨_, rfl, by rw [hi]; simp_all⟩
          | (simp only [nameB, hi]; simp_all; done)
          | (rw [hi, if_neg (by omega), if_pos ⟨by omega, by omega⟩]; rfl)
  · intro b hi
    rw [← hsz, List.drop_length, nameL] at hi
    cases b
    · simp only [id WWd, IR.o, IR.e, Nat.reduceBEq, Nat.reduceAdd, reduceCtorEq, paramTm, List.map_cons, List.map_nil, forall_const, Option.map_some, Option.map_none, implies_true]
      simp only [nameB, hi, Bool.not_false, Bool.true_and]
      repeat' (first | apply And.intro | intro _)
      all_goals (congr; symm; simp; omega)
    · simp only [id WWd, IR.o, IR.e, Nat.reduceBEq, Nat.reduceAdd, reduceCtorEq, paramTm, List.map_cons, List.map_nil, forall_const, Option.map_some, Option.map_none, implies_true]
      simp only [nameB, hi, Bool.not_true, Bool.false_and]

theorem name_ref (s : ByteArray) (hs : s.size ≤ maxLen) : ∀ h, callFn EC (ev EC) 103 [.im (.sc (.string s))] h = some ⟨.im (.sc (.bool (nameB s))), .none, .none, false⟩ := by
  intro h
  refine callFn_P (F := IR.f103) rfl rfl rfl rfl rfl rfl rfl rfl ?_
  have hsz : s.data.toList.length = s.size := rfl
  unfold IR.f103
  simp only [id WWd, IR.o, IR.e, Nat.reduceBEq, Nat.reduceAdd, reduceCtorEq, paramTm, List.map_cons, List.map_nil, forall_const, Option.map_some, Option.map_none, implies_true]
  refine ⟨fun h0 => ?_, fun h0 => ⟨fun h1 => ?_, fun h1 => ?_⟩⟩
  · refine bool_eq ?_
    rw [bytesEq_iff] at h0
    rw [nameB, h0]
    rfl
  · refine bool_eq ?_
    rw [nameB, decide_eq_false (by omega), Bool.and_false]
  · have h64 : decide ((s.size : Int) ≤ 64) = true := decide_eq_true (by omega)
    refine W_forI s.size (fun j b => ⟨[(0, .im (.sc (.string s))), (2, .im (.sc (.bool false))), (3, .im (.sc (.bool b))), (4, .im (.sc (.int .i64 (j : Int))))], [], []⟩) (fun j b => nameL s.data.toList true = nameL (s.data.toList.drop j) b) true ?_ rfl ?_ ?_
    · simp only [id WWd, IR.o, IR.e, Nat.reduceBEq, Nat.reduceAdd, reduceCtorEq, paramTm, List.map_cons, List.map_nil, forall_const, Option.map_some, Option.map_none, implies_true]
      rfl
    · intro j b hj hi
      obtain ⟨x, hx⟩ : ∃ x, s.data.toList[j]? = some x := ⟨_, List.getElem?_eq_getElem (by omega)⟩
      have hlt : (j : Int) < s.size := by omega
      have hw : wr ((j : Int) + 1) = ((j + 1 : Nat) : Int) := wr_id (by omega) (by have := maxLen_lt; omega)
      have e2 := idx_str 1 false s .i64 j _ hx
      rw [drop_get hx, nameL] at hi
      cases b with
      | true =>
        by_cases hl : letP (x.toNat : Int)
        · rw [if_pos hl] at hi
          simp only [id WWd, IR.o, IR.e, Nat.reduceBEq, Nat.reduceAdd, reduceCtorEq, paramTm, List.map_cons, List.map_nil, forall_const, Option.map_some, Option.map_none, implies_true, hlt, e2, let_ref, hl, decide_true, hw]
          exact ⟨false, rfl, hi⟩
        · rw [if_neg hl, if_pos rfl] at hi
          simp only [id WWd, IR.o, IR.e, Nat.reduceBEq, Nat.reduceAdd, reduceCtorEq, paramTm, List.map_cons, List.map_nil, forall_const, Option.map_some, Option.map_none, implies_true, hlt, e2, let_ref, hl, decide_false]
          simp only [nameB, hi, Bool.false_and]
      | false =>
        by_cases hl : letP (x.toNat : Int)
        · rw [if_pos hl] at hi
          simp only [id WWd, IR.o, IR.e, Nat.reduceBEq, Nat.reduceAdd, reduceCtorEq, paramTm, List.map_cons, List.map_nil, forall_const, Option.map_some, Option.map_none, implies_true, hlt, e2, let_ref, hl, decide_true, hw]
          have h46 : ¬ (x.toNat : Int) = 46 := by intro h; rw [h] at hl; revert hl; decide
          exact ⟨fun h => absurd h h46, fun _ => ⟨false, rfl, hi⟩⟩
        · rw [if_neg hl, if_neg (by simp)] at hi
          simp only [id WWd, IR.o, IR.e, Nat.reduceBEq, Nat.reduceAdd, reduceCtorEq, paramTm, List.map_cons, List.map_nil, forall_const, Option.map_some, Option.map_none, implies_true, hlt, e2, let_ref, hl, decide_false, hw]
          repeat' (first | apply And.intro | intro _)
          all_goals first
            | exact ⟨_, rfl, by rw [hi]; simp_all⟩
            | (simp only [nameB, hi]; simp_all; done)
            | (refine bool_eq ?_; rw [nameB, hi, if_neg (by omega), if_pos ⟨by omega, by omega⟩]; rfl)
            | (refine ⟨_, rfl, ?_⟩; rw [hi, if_neg (by omega), if_neg (by omega)])
    · intro b hi
      rw [← hsz, List.drop_length, nameL] at hi
      simp only [id WWd, IR.o, IR.e, Nat.reduceBEq, Nat.reduceAdd, reduceCtorEq, paramTm, List.map_cons, List.map_nil, forall_const, Option.map_some, Option.map_none, implies_true]
      rw [nameB, hi, h64, Bool.and_true]
      cases b <;> simp
end Go.Em
namespace Go.Em
open Go
set_option maxRecDepth 20000

/-- How many parts a kind has. -/
def kidsN (k : Int) : Int := if k = 4 ∨ k = 5 ∨ k = 6 ∨ k = 7 then 2 else if k = 8 ∨ k = 11 then 3 else if k = 9 ∨ k = 10 then 1 else 0

theorem kids_ref (k : Int) : ∀ h, callFn EC (ev EC) 155 [.im (.sc (.int .i64 k))] h = some ⟨.im (.sc (.int .i64 (kidsN k))), .none, .none, false⟩ := by
  intro h
  refine callFn_P (F := IR.f155) rfl rfl rfl rfl rfl rfl rfl rfl ?_
  unfold IR.f155
  simp only [id WWd, IR.o, IR.e, Nat.reduceBEq, Nat.reduceAdd, reduceCtorEq, paramTm, List.map_cons, List.map_nil, forall_const, Option.map_some, Option.map_none, implies_true]
  repeat' (first | apply And.intro | intro _)
  all_goals
    refine congrArg (fun n => some (AV.im (IV.sc (Value.int .i64 n)))) ?_
    unfold kidsN
    simp_all

/-- How many binders of a node a part is below. -/
def belN (k j : Int) : Int := if (j = 1 ∧ (k = 5 ∨ k = 6 ∨ k = 7)) ∨ (j = 2 ∧ k = 11) then 1 else 0

theorem bel_ref (k j : Int) : ∀ h, callFn EC (ev EC) 105 [.im (.sc (.int .i64 k)), .im (.sc (.int .i64 j))] h = some ⟨.im (.sc (.int .i64 (belN k j))), .none, .none, false⟩ := by
  intro h
  refine callFn_P (F := IR.f105) rfl rfl rfl rfl rfl rfl rfl rfl ?_
  unfold IR.f105
  simp only [id WWd, IR.o, IR.e, Nat.reduceBEq, Nat.reduceAdd, reduceCtorEq, paramTm, List.map_cons, List.map_nil, forall_const, Option.map_some, Option.map_none, implies_true]
  repeat' (first | apply And.intro | intro _)
  all_goals
    refine congrArg (fun n => some (AV.im (IV.sc (Value.int .i64 n)))) ?_
    unfold belN
    simp_all

/-- That a node uses the fields that its kind uses; 'e': whether its name is empty. -/
def fitP (k i : Int) (e : Bool) (nl nk : Int) : Prop :=
  0 ≤ k ∧ k < 13 ∧ nk = kidsN k ∧ (i = 0 ∨ k = 0 ∨ k = 12) ∧ (e = true ∨ k = 3) ∧ (k = 2 → nl = 1) ∧ (k ≠ 2 → nl = 0 ∨ k = 3)
instance (k i : Int) (e : Bool) (nl nk : Int) : Decidable (fitP k i e nl nk) := by unfold fitP; infer_instance

theorem fitP_t {k i nl nk : Int} : fitP k i true nl nk ↔ 0 ≤ k ∧ k < 13 ∧ nk = kidsN k ∧ (i = 0 ∨ k = 0 ∨ k = 12) ∧ (k = 2 → nl = 1) ∧ (k ≠ 2 → nl = 0 ∨ k = 3) := by simp [fitP]
theorem fitP_f {k i nl nk : Int} : fitP k i false nl nk ↔ 0 ≤ k ∧ k < 13 ∧ nk = kidsN k ∧ (i = 0 ∨ k = 0 ∨ k = 12) ∧ k = 3 ∧ (k = 2 → nl = 1) ∧ (k ≠ 2 → nl = 0 ∨ k = 3) := by simp [fitP]

theorem fit_ref (k i : Int) (s : ByteArray) (ls ks : List IV) (lk kk : SK) : ∀ h, callFn EC (ev EC) 102 [.im (.agg [.sc (.int .i64 k), .sc (.int .i64 i), .sc (.string s), .sl ls lk, .sl ks kk])] h = some ⟨.im (.sc (.bool (decide (fitP k i (bytesEq s.data.toList []) ls.length ks.length)))), .none, .none, false⟩ := by
  intro h
  refine callFn_P (F := IR.f102) rfl rfl rfl rfl rfl rfl rfl rfl ?_
  simp only [strip_agg, List.map_cons, List.map_nil, flat_sc, flat_slK]
  generalize flatK ls lk = lk'
  generalize flatK ks kk = kk'
  unfold IR.f102
  simp only [id WWd, IR.o, IR.e, Nat.reduceBEq, Nat.reduceAdd, reduceCtorEq, paramTm, List.map_cons, List.map_nil, forall_const, Option.map_some, Option.map_none, implies_true]
  refine W_draw rfl ?_
  simp only [id WWd, IR.o, IR.e, Nat.reduceBEq, Nat.reduceAdd, reduceCtorEq, paramTm, List.map_cons, List.map_nil, forall_const, Option.map_some, Option.map_none, implies_true, kids_ref]
  generalize bytesEq s.data.toList [] = e
  cases e
  all_goals
    simp only [reduceCtorEq, true_implies, false_implies, and_true, true_and]
    repeat' (first | apply And.intro | intro _)
    all_goals
      refine bool_eq ?_
      first
        | exact decide_eq_true (fitP_t.2 (by omega))
        | exact decide_eq_false (fun h => by have := fitP_t.1 h; omega)
        | exact decide_eq_true (fitP_f.2 (by omega))
        | exact decide_eq_false (fun h => by have := fitP_f.1 h; omega)

/-- The table of what the kinds use. -/
def useT : List IV := [.sc (.bool true), .sc (.bool false), .sc (.int .i64 0), .sc (.int .i64 0), .sc (.int .i64 (-1)), .sc (.bool false), .sc (.bool false), .sc (.int .i64 0), .sc (.int .i64 0), .sc (.int .i64 (-1)), .sc (.bool false), .sc (.bool false), .sc (.int .i64 1), .sc (.int .i64 0), .sc (.int .i64 (-1)), .sc (.bool false), .sc (.bool true), .sc (.int .i64 (-1)), .sc (.int .i64 0), .sc (.int .i64 (-1)), .sc (.bool false), .sc (.bool false), .sc (.int .i64 0), .sc (.int .i64 2), .sc (.int .i64 (-1)), .sc (.bool false), .sc (.bool false), .sc (.int .i64 0), .sc (.int .i64 2), .sc (.int .i64 1), .sc (.bool false), .sc (.bool false), .sc (.int .i64 0), .sc (.int .i64 2), .sc (.int .i64 1), .sc (.bool false), .sc (.bool false), .sc (.int .i64 0), .sc (.int .i64 2), .sc (.int .i64 1), .sc (.bool false), .sc (.bool false), .sc (.int .i64 0), .sc (.int .i64 3), .sc (.int .i64 (-1)), .sc (.bool false), .sc (.bool false), .sc (.int .i64 0), .sc (.int .i64 1), .sc (.int .i64 (-1)), .sc (.bool false), .sc (.bool false), .sc (.int .i64 0), .sc (.int .i64 1), .sc (.int .i64 (-1)), .sc (.bool false), .sc (.bool false), .sc (.int .i64 0), .sc (.int .i64 3), .sc (.int .i64 2), .sc (.bool true), .sc (.bool false), .sc (.int .i64 0), .sc (.int .i64 0), .sc (.int .i64 (-1))]

theorem use_ex : callFn EC (exec EC 100) 97 [] [] = some { v := .im (.agg useT) } := by kernel_rfl
theorem use_h (n : Nat) (h : Heap) : callFn EC (exec EC n) 97 [] h = callFn EC (exec EC n) 97 [] [] := rfl
theorem use_spec (h : Heap) : callFn EC (ev EC) 97 [] h = some ⟨.im (.agg useT), .none, .none, false⟩ := by
  have := callFn_exec (n := 100) (h := h) (r := { v := .im (.agg useT) }) (by rw [use_h]; exact use_ex)
  exact this

theorem fit_spec (k i : Int) (s : ByteArray) (ls ks : List IV) (lk kk : SK) : ∀ h, callFn EC (ev EC) 99 [.im (.agg [.sc (.int .i64 k), .sc (.int .i64 i), .sc (.string s), .sl ls lk, .sl ks kk])] h = some ⟨.im (.sc (.bool (decide (fitP k i (bytesEq s.data.toList []) ls.length ks.length)))), .none, .none, false⟩ := by
  intro h
  refine callFn_P (F := IR.f99) rfl rfl rfl rfl rfl rfl rfl rfl ?_
  simp only [strip_agg, List.map_cons, List.map_nil, flat_sc, flat_slK]
  generalize flatK ls lk = lk'
  generalize flatK ks kk = kk'
  unfold IR.f99
  simp only [id WWd, IR.o, IR.e, Nat.reduceBEq, Nat.reduceAdd, reduceCtorEq, paramTm, List.map_cons, List.map_nil, forall_const, Option.map_some, Option.map_none, implies_true]
  refine ⟨fun h => ?_, fun h0 => ⟨fun h1 => ?_, fun h1 => ?_⟩⟩
  · exact bool_eq (decide_eq_false (fun h2 => by unfold fitP at h2; omega))
  · exact bool_eq (decide_eq_false (fun h2 => by unfold fitP at h2; omega))
  · have hk : k = 0 ∨ k = 1 ∨ k = 2 ∨ k = 3 ∨ k = 4 ∨ k = 5 ∨ k = 6 ∨ k = 7 ∨ k = 8 ∨ k = 9 ∨ k = 10 ∨ k = 11 ∨ k = 12 := by omega
    have hx : ∃ cs, oIdxV 5 true (some 13) (.im (.agg useT)) (.im (.sc (.int .i64 k))) = some ⟨.im (.agg cs), .none, .none, false⟩ ∧ ((k = 0 ∨ k = 12) ∧ cs = [.sc (.bool true), .sc (.bool false), .sc (.int .i64 0), .sc (.int .i64 (kidsN k)), .sc (.int .i64 (-1))] ∨ k = 2 ∧ (∃ b : Int, cs = [.sc (.bool false), .sc (.bool false), .sc (.int .i64 1), .sc (.int .i64 (kidsN k)), .sc (.int .i64 b)]) ∨ k = 3 ∧ (∃ b : Int, cs = [.sc (.bool false), .sc (.bool true), .sc (.int .i64 (-1)), .sc (.int .i64 (kidsN k)), .sc (.int .i64 b)]) ∨ (k ≠ 0 ∧ k ≠ 12 ∧ k ≠ 2 ∧ k ≠ 3) ∧ ∃ b : Int, cs = [.sc (.bool false), .sc (.bool false), .sc (.int .i64 0), .sc (.int .i64 (kidsN k)), .sc (.int .i64 b)]) := by
      rcases hk with rfl | rfl | rfl | rfl | rfl | rfl | rfl | rfl | rfl | rfl | rfl | rfl | rfl
      all_goals refine ⟨_, rfl, ?_⟩
      · exact .inl ⟨.inl rfl, rfl⟩
      · exact .inr (.inr (.inr ⟨by omega, _, rfl⟩))
      · exact .inr (.inl ⟨rfl, _, rfl⟩)
      · exact .inr (.inr (.inl ⟨rfl, _, rfl⟩))
      all_goals first
        | exact .inr (.inr (.inr ⟨by omega, _, rfl⟩))
        | exact .inl ⟨.inr rfl, rfl⟩
    obtain ⟨cs, hx, hc⟩ := hx
    generalize he : bytesEq s.data.toList [] = e
    generalize hn : kidsN k = nk at hc
    have key : (k = 0 ∨ k = 12) ∨ k = 2 ∨ k = 3 ∨ (k ≠ 0 ∧ k ≠ 12 ∧ k ≠ 2 ∧ k ≠ 3) := by omega
    rcases hc with ⟨hk1, rfl⟩ | ⟨hk1, b, rfl⟩ | ⟨hk1, b, rfl⟩ | ⟨hk1, b, rfl⟩
    all_goals
      refine W_drawG ?_
      simp only [log_call, log_mv, log_off, log_ld, log_st, log_idxV, log_lalloc, log_nil, logK, logQ, runOp, callV_func, ops_nil, List.append_nil, List.nil_append, use_spec, sOp_some, sOp_box, sLalloc, setT_none, WLg_some, id WWd, IR.o, IR.e, Nat.reduceBEq, Nat.reduceAdd, reduceCtorEq, paramTm, List.map_cons, List.map_nil, forall_const, Option.map_some, Option.map_none, implies_true, hx, he]
      refine ⟨rfl, ?_⟩
      cases e
      all_goals
        try simp only [reduceCtorEq, true_implies, false_implies, and_true, true_and]
        repeat' (first | apply And.intro | intro _)
        all_goals
          refine bool_eq ?_
          first
            | exact decide_eq_true (fitP_t.2 (by omega))
            | exact decide_eq_false (fun h => by have := fitP_t.1 h; omega)
            | exact decide_eq_true (fitP_f.2 (by omega))
            | exact decide_eq_false (fun h => by have := fitP_f.1 h; omega)
end Go.Em
namespace Go.Em
open Go
set_option maxRecDepth 20000

/-- The number of a variable, and its offset. -/
def ixN (vs : List IV) (j : Nat) : Int := match vs[j]? with
  | some (.agg [.sc (.int _ i), _]) => i
  | _ => 0
def plN (vs : List IV) (j : Nat) : Int := match vs[j]? with
  | some (.agg [_, .sc (.int _ p)]) => p
  | _ => 0
theorem var_at {vs : List IV} (hv : ∀ v ∈ vs, VarI v) {j : Nat} (hj : j < vs.length) : vs[j]? = some (.agg [.sc (.int .i64 (ixN vs j)), .sc (.int .i64 (plN vs j))]) := by
  obtain ⟨x, hx⟩ : ∃ x, vs[j]? = some x := ⟨_, List.getElem?_eq_getElem hj⟩
  obtain ⟨i, p⟩ := hv x (List.mem_of_getElem? hx)
  unfold ixN plN
  rw [hx]

/-- That a variable's number and offset are in order. -/
def okV (vs : List IV) (j : Nat) : Prop := -65536 ≤ ixN vs j ∧ ixN vs j ≤ 7 ∧ 0 ≤ plN vs j ∧ plN vs j ≤ 100 ∧ (0 < j → ixN vs (j - 1) < ixN vs j)
/-- That a level is in order. -/
def okL (c : Int) (vs : List IV) : Prop := 0 ≤ c ∧ c ≤ 100 ∧ ∀ j, j < vs.length → okV vs j ∧ ¬ (0 < c ∧ c ≤ plN vs j)

open Classical in
theorem valid_ref {c : Int} {vs : List IV} {k : SK} (hv : ∀ v ∈ vs, VarI v) (hn : vs.length ≤ maxLen) : ∀ h, callFn EC (ev EC) 157 [.im (.agg [.sc (.int .i64 c), .sl vs k])] h = some ⟨.im (.sc (.bool (decide (okL c vs)))), .none, .none, false⟩ := by
  intro h
  refine callFn_P (F := IR.f157) rfl rfl rfl rfl rfl rfl rfl rfl ?_
  simp only [strip_agg, List.map_cons, List.map_nil, flat_sc, flat_slK]
  generalize flatK vs k = k'
  unfold IR.f157
  simp only [id WWd, IR.o, IR.e, Nat.reduceBEq, Nat.reduceAdd, reduceCtorEq, paramTm, List.map_cons, List.map_nil, forall_const, Option.map_some, Option.map_none, implies_true]
  refine ⟨fun h0 => bool_eq (decide_eq_false (fun h2 => by have := h2.1; omega)), fun h0 => ⟨fun h1 => bool_eq (decide_eq_false (fun h2 => by have := h2.2.1; omega)), fun h1 => ?_⟩⟩
  refine W_forI vs.length (fun j (_ : Unit) => ⟨[(2, .im (.sc (.bool false))), (3, .im (.sc (.int .i64 (j : Int))))], [(1, [.im (.sc (.int .i64 c)), .im (.sl vs k')])], []⟩) (fun j _ => ∀ i, i < j → okV vs i ∧ ¬ (0 < c ∧ c ≤ plN vs i)) () ?_ (fun i hi => by omega) ?_ ?_
  · simp only [id WWd, IR.o, IR.e, Nat.reduceBEq, Nat.reduceAdd, reduceCtorEq, paramTm, List.map_cons, List.map_nil, forall_const, Option.map_some, Option.map_none, implies_true]
    rfl
  · intro j _ hj hi
    have hx := var_at hv hj
    have hlt : (j : Int) < vs.length := by omega
    have hw : wr ((j : Int) + 1) = ((j + 1 : Nat) : Int) := wr_id (by omega) (by have := maxLen_lt; omega)
    have e2 := idx_sl 2 vs k' .i64 j _ hx rfl
    simp only [IV.cells] at e2
    have hok : okV vs j ∧ ¬ (0 < c ∧ c ≤ plN vs j) → ∀ i, i < j + 1 → okV vs i ∧ ¬ (0 < c ∧ c ≤ plN vs i) := fun h i hij => by
      rcases Nat.lt_or_ge i j with h3 | h3
      · exact hi i h3
      · obtain rfl : i = j := by omega
        exact h
    have hbad : ¬ (okV vs j ∧ ¬ (0 < c ∧ c ≤ plN vs j)) → some (AV.im (IV.sc (Value.bool false))) = some (AV.im (IV.sc (Value.bool (decide (okL c vs))))) := fun h => bool_eq (decide_eq_false (fun h2 => h (h2.2.2 j hj)))
    simp only [id WWd, IR.o, IR.e, Nat.reduceBEq, Nat.reduceAdd, reduceCtorEq, paramTm, List.map_cons, List.map_nil, forall_const, Option.map_some, Option.map_none, implies_true, hlt, e2]
    rcases Nat.eq_zero_or_pos j with rfl | hpos
    · refine ⟨fun a1 => hbad (by unfold okV; omega), fun a1 => ⟨fun a2 => hbad (by unfold okV; omega), fun a2 => ⟨fun a3 => hbad (by unfold okV; omega), fun a3 => ⟨fun a4 => hbad (by unfold okV; omega), fun a4 => ?_⟩⟩⟩⟩
      refine W_draw rfl ?_
      have h00 : ¬ (0 : Int) < ((0 : Nat) : Int) := by omega
      simp only [id WWd, IR.o, IR.e, Nat.reduceBEq, Nat.reduceAdd, reduceCtorEq, paramTm, List.map_cons, List.map_nil, forall_const, Option.map_some, Option.map_none, implies_true, hlt, e2, h00, hw]
      repeat' (first | apply And.intro | intro _)
      all_goals first
        | exact hbad (by unfold okV; omega)
        | exact ⟨(), hok ⟨by unfold okV; omega, by omega⟩⟩
    · refine ⟨fun a1 => hbad (by unfold okV; omega), fun a1 => ⟨fun a2 => hbad (by unfold okV; omega), fun a2 => ⟨fun a3 => hbad (by unfold okV; omega), fun a3 => ⟨fun a4 => hbad (by unfold okV; omega), fun a4 => ?_⟩⟩⟩⟩
      refine W_draw rfl ?_
      have h00 : (0 : Int) < (j : Int) := by omega
      have hw1 : wr ((j : Int) - 1) = ((j - 1 : Nat) : Int) := by rw [wr_id (by omega) (by have := maxLen_lt; omega)]; omega
      have e3 := idx_sl 2 vs k' .i64 (j - 1) _ (var_at hv (by omega)) rfl
      simp only [IV.cells] at e3
      simp only [id WWd, IR.o, IR.e, Nat.reduceBEq, Nat.reduceAdd, reduceCtorEq, paramTm, List.map_cons, List.map_nil, forall_const, Option.map_some, Option.map_none, implies_true, hlt, e2, h00, hw, hw1, e3]
      repeat' (first | apply And.intro | intro _)
      all_goals first
        | exact ⟨(), hok ⟨⟨by omega, by omega, by omega, by omega, fun _ => by omega⟩, by omega⟩⟩
        | exact hbad (fun h2 => by have h3 := h2.1.2.2.2.2 hpos; have h4 := h2.1.1; have h5 := h2.1.2.1; have h6 := h2.1.2.2.1; have h7 := h2.1.2.2.2.1; have h8 := h2.2; omega)
  · intro _ hi
    simp only [id WWd, IR.o, IR.e, Nat.reduceBEq, Nat.reduceAdd, reduceCtorEq, paramTm, List.map_cons, List.map_nil, forall_const, Option.map_some, Option.map_none, implies_true]
    exact bool_eq (decide_eq_true ⟨by omega, by omega, hi⟩)

/-- That some offset is at least the constant. -/
def covP (c : Int) (vs : List IV) : Prop := ∃ j, j < vs.length ∧ c ≤ plN vs j

theorem cov1_spec (c i p : Int) (vs : List IV) (kx : SK) : ∀ h, callFn EC (ev EC) 261 [.im (.agg [.sc (.int .i64 i), .sc (.int .i64 p)]), .im (.ip [.sc (.int .i64 c), .sl vs kx])] h = some ⟨.im (.sc (.bool (!decide (p < c)))), .none, .none, false⟩ := by
  intro h
  refine callFn_P (F := IR.f261) rfl rfl rfl rfl rfl rfl rfl rfl ?_
  simp only [strip_agg, List.map_cons, List.map_nil, flat_sc, strip_ip]
  unfold IR.f261
  simp only [id WWd, IR.o, IR.e, Nat.reduceBEq, Nat.reduceAdd, reduceCtorEq, paramTm, List.map_cons, List.map_nil, forall_const, Option.map_some, Option.map_none, implies_true]
  repeat' (first | apply And.intro | intro _)
  all_goals
    refine bool_eq ?_
    simp_all

theorem cov_idx {c : Int} {vs : List IV} {k kx : SK} (hv : ∀ v ∈ vs, VarI v) (hn : vs.length ≤ maxLen) : ∃ r : Int, (0 ≤ r ↔ covP c vs) ∧ ∀ h, callFn EC (ev EC) 179 [.im (.sl vs k), .im (.fn (.func 261) [] [.ip [.sc (.int .i64 c), .sl vs kx]])] h = some ⟨.im (.sc (.int .i64 r)), .none, .none, false⟩ := by
  have := callFn_PE (E := EC) (f := 179) (F := IR.f179) (args := [.im (.sl vs k), .im (.fn (.func 261) [] [.ip [.sc (.int .i64 c), .sl vs kx]])]) (R := fun r => ∃ n : Int, r = .im (.sc (.int .i64 n)) ∧ (0 ≤ n ↔ covP c vs)) rfl rfl rfl rfl rfl rfl rfl rfl ?_
  · obtain ⟨_, ⟨n, rfl, hn⟩, h2⟩ := this
    exact ⟨n, hn, h2⟩
  simp only [strip_sl, strip_fn]
  generalize flatK vs k = k'
  unfold IR.f179
  simp only [id WWd, IR.o, IR.e, Nat.reduceBEq, Nat.reduceAdd, reduceCtorEq, paramTm, List.map_cons, List.map_nil, forall_const, Option.map_some, Option.map_none, implies_true]
  refine W_forI vs.length (fun j (_ : Unit) => ⟨[(0, .im (.sl vs k')), (1, .im (.fn (.func 261) [] [.ip [.sc (.int .i64 c), .sl vs kx]])), (4, .im (.sc (.int .i64 0))), (7, .im (.sc (.int .i64 vs.length))), (8, .im (.sc (.int .i64 (j : Int))))], [], []⟩) (fun j _ => ∀ i, i < j → ¬ c ≤ plN vs i) () ?_ (fun i hi => by omega) ?_ ?_
  · simp only [id WWd, IR.o, IR.e, Nat.reduceBEq, Nat.reduceAdd, reduceCtorEq, paramTm, List.map_cons, List.map_nil, forall_const, Option.map_some, Option.map_none, implies_true]
    rfl
  · intro j _ hj hi
    have hx := var_at hv hj
    have hlt : (j : Int) < vs.length := by omega
    have hw : wr ((j : Int) + 1) = ((j + 1 : Nat) : Int) := wr_id (by omega) (by have := maxLen_lt; omega)
    have e2 := idx_sl 2 vs k' .i64 j _ hx rfl
    simp only [IV.cells] at e2
    by_cases hc : plN vs j < c
    · simp only [id WWd, IR.o, IR.e, Nat.reduceBEq, Nat.reduceAdd, reduceCtorEq, paramTm, List.map_cons, List.map_nil, forall_const, Option.map_some, Option.map_none, implies_true, hlt, e2, List.append_nil, List.nil_append, List.cons_append, cov1_spec, hw, hc, decide_true]
      refine ⟨(), fun i hij => ?_⟩
      rcases Nat.lt_or_ge i j with h3 | h3
      · exact hi i h3
      · obtain rfl : i = j := by omega
        omega
    · simp only [id WWd, IR.o, IR.e, Nat.reduceBEq, Nat.reduceAdd, reduceCtorEq, paramTm, List.map_cons, List.map_nil, forall_const, Option.map_some, Option.map_none, implies_true, hlt, e2, List.append_nil, List.nil_append, List.cons_append, cov1_spec, hw, hc, decide_false]
      exact ⟨_, ⟨j, rfl, fun _ => ⟨j, hj, by omega⟩, fun _ => by omega⟩, rfl⟩
  · intro _ hi
    simp only [id WWd, IR.o, IR.e, Nat.reduceBEq, Nat.reduceAdd, reduceCtorEq, paramTm, List.map_cons, List.map_nil, forall_const, Option.map_some, Option.map_none, implies_true]
    refine ⟨_, ⟨-1, rfl, ⟨fun h => by omega, fun ⟨j, h1, h2⟩ => absurd h2 (hi j h1)⟩⟩, rfl⟩

open Classical in
theorem cov_any {c : Int} {vs : List IV} {k kx : SK} (hv : ∀ v ∈ vs, VarI v) (hn : vs.length ≤ maxLen) : ∀ h, callFn EC (ev EC) 127 [.im (.sl vs k), .im (.fn (.func 261) [] [.ip [.sc (.int .i64 c), .sl vs kx]])] h = some ⟨.im (.sc (.bool (decide (covP c vs)))), .none, .none, false⟩ := by
  intro h
  refine callFn_P (F := IR.f127) rfl rfl rfl rfl rfl rfl rfl rfl ?_
  simp only [strip_sl, strip_fn]
  generalize flatK vs k = k'
  obtain ⟨r, hr, he⟩ := cov_idx (c := c) (k := k') (kx := kx) hv hn
  unfold IR.f127
  simp only [id WWd, IR.o, IR.e, Nat.reduceBEq, Nat.reduceAdd, reduceCtorEq, paramTm, List.map_cons, List.map_nil, forall_const, Option.map_some, Option.map_none, implies_true, he]
  refine ⟨fun a1 => bool_eq ?_, fun a1 => bool_eq ?_⟩
  · exact decide_eq_true (hr.1 (by omega))
  · exact decide_eq_false (fun h => by have := hr.2 h; omega)

theorem fz_cov (c : Int) (vs : List IV) (k : SK) : oMkfn (.func 261) [] [.ptr 0 0] [true] [.cells [.im (.sc (.int .i64 c)), .im (.sl vs k)]] = some ⟨.im (.fn (.func 261) [] [.ip [.sc (.int .i64 c), IV.flat (.sl vs k)]]), .heap, .heap [.frz [.sc (.int .i64 c), IV.flat (.sl vs k)]], false⟩ := by
  rfl

open Classical in
theorem cov_spec {c : Int} {vs : List IV} {k : SK} (hv : ∀ v ∈ vs, VarI v) (hn : vs.length ≤ maxLen) : ∀ h, callFn EC (ev EC) 199 [.im (.agg [.sc (.int .i64 c), .sl vs k])] h = some ⟨.im (.sc (.bool (decide (covP c vs)))), .none, .none, false⟩ := by
  intro h
  refine callFn_P (F := IR.f199) rfl rfl rfl rfl rfl rfl rfl rfl ?_
  simp only [strip_agg, List.map_cons, List.map_nil, flat_sc, flat_slK]
  generalize flatK vs k = k'
  unfold IR.f199
  simp only [id WWd, IR.o, IR.e, Nat.reduceBEq, Nat.reduceAdd, reduceCtorEq, paramTm, List.map_cons, List.map_nil, forall_const, Option.map_some, Option.map_none, implies_true, fz_cov, flat_slK]
  simp only [id WWd, IR.o, IR.e, Nat.reduceBEq, Nat.reduceAdd, reduceCtorEq, paramTm, List.map_cons, List.map_nil, forall_const, Option.map_some, Option.map_none, implies_true, cov_any hv hn]
end Go.Em
namespace Go.Em
open Go
set_option maxRecDepth 20000

open Classical in
theorem valid_spec {c : Int} {vs : List IV} {k : SK} (hv : ∀ v ∈ vs, VarI v) (hn : vs.length ≤ maxLen) : ∀ h, callFn EC (ev EC) 141 [.im (.agg [.sc (.int .i64 c), .sl vs k])] h = some ⟨.im (.sc (.bool (decide (okL c vs)))), .none, .none, false⟩ := by
  intro h
  refine callFn_P (F := IR.f141) rfl rfl rfl rfl rfl rfl rfl rfl ?_
  simp only [strip_agg, List.map_cons, List.map_nil, flat_sc, flat_slK]
  generalize flatK vs k = k'
  unfold IR.f141
  by_cases hb : c < 0
  · simp only [id WWd, IR.o, IR.e, Nat.reduceBEq, Nat.reduceAdd, reduceCtorEq, paramTm, List.map_cons, List.map_nil, forall_const, Option.map_some, Option.map_none, implies_true, hb]
    exact bool_eq (decide_eq_false (fun h2 => by have := h2.1; omega))
  by_cases h100 : 100 < c
  · simp only [id WWd, IR.o, IR.e, Nat.reduceBEq, Nat.reduceAdd, reduceCtorEq, paramTm, List.map_cons, List.map_nil, forall_const, Option.map_some, Option.map_none, implies_true, hb, h100]
    exact bool_eq (decide_eq_false (fun h2 => by have := h2.2.1; omega))
  have hcase : (¬ 0 < c ∧ True) ∨ (0 < c ∧ ¬ covP c vs) ∨ (0 < c ∧ covP c vs) := by
    by_cases h1 : 0 < c
    · by_cases h2 : covP c vs
      · exact .inr (.inr ⟨h1, h2⟩)
      · exact .inr (.inl ⟨h1, h2⟩)
    · exact .inl ⟨h1, trivial⟩
  rcases hcase with ⟨hp, hcov⟩ | ⟨hp, hcov⟩ | ⟨hp, hcov⟩
  case inr.inr =>
    obtain ⟨m, hm1, hm2⟩ := id hcov
    simp only [id WWd, IR.o, IR.e, Nat.reduceBEq, Nat.reduceAdd, reduceCtorEq, paramTm, List.map_cons, List.map_nil, forall_const, Option.map_some, Option.map_none, implies_true, cov_spec hv hn, hcov, hb, h100, hp, decide_true]
    exact bool_eq (decide_eq_false (fun h2 => (h2.2.2 m hm1).2 ⟨hp, hm2⟩))
  all_goals
    have hnc : ∀ j, j < vs.length → ¬ (0 < c ∧ c ≤ plN vs j) := fun j hj h => by
      first
        | exact hp h.1
        | exact hcov ⟨j, hj, h.2⟩
    simp only [id WWd, IR.o, IR.e, Nat.reduceBEq, Nat.reduceAdd, reduceCtorEq, paramTm, List.map_cons, List.map_nil, forall_const, Option.map_some, Option.map_none, implies_true, cov_spec hv hn, hb, h100, hp, hcov, decide_false]
    refine W_forI vs.length (fun j (_ : Unit) => ⟨[(2, .im (.sc (.bool false))), (23, .im (.sl vs k')), (24, .im (.sc (.int .i64 vs.length))), (25, .im (.sc (.int .i64 (j : Int))))], [(1, [.im (.sc (.int .i64 c)), .im (.sl vs k')])], []⟩) (fun j _ => ∀ i, i < j → okV vs i) () ?_ (fun i hi => by omega) ?_ ?_
    · simp only [id WWd, IR.o, IR.e, Nat.reduceBEq, Nat.reduceAdd, reduceCtorEq, paramTm, List.map_cons, List.map_nil, forall_const, Option.map_some, Option.map_none, implies_true]
      rfl
    · intro j _ hj hi
      have hx := var_at hv hj
      have hlt : (j : Int) < vs.length := by omega
      have hw : wr ((j : Int) + 1) = ((j + 1 : Nat) : Int) := wr_id (by omega) (by have := maxLen_lt; omega)
      have e2 := idx_sl 2 vs k' .i64 j _ hx rfl
      simp only [IV.cells] at e2
      have hok : okV vs j → ∀ i, i < j + 1 → okV vs i := fun h i hij => by
        rcases Nat.lt_or_ge i j with h3 | h3
        · exact hi i h3
        · obtain rfl : i = j := by omega
          exact h
      have hbad : ¬ okV vs j → some (AV.im (IV.sc (Value.bool false))) = some (AV.im (IV.sc (Value.bool (decide (okL c vs))))) := fun h => bool_eq (decide_eq_false (fun h2 => h (h2.2.2 j hj).1))
      rcases Nat.eq_zero_or_pos j with rfl | hpos
      · have h00 : ¬ (0 : Int) < ((0 : Nat) : Int) := by omega
        simp only [id WWd, IR.o, IR.e, Nat.reduceBEq, Nat.reduceAdd, reduceCtorEq, paramTm, List.map_cons, List.map_nil, forall_const, Option.map_some, Option.map_none, implies_true, hlt, e2]
        refine W_draw rfl ?_
        simp only [id WWd, IR.o, IR.e, Nat.reduceBEq, Nat.reduceAdd, reduceCtorEq, paramTm, List.map_cons, List.map_nil, forall_const, Option.map_some, Option.map_none, implies_true, hlt, e2, h00, hw]
        repeat' (first | apply And.intro | intro _)
        all_goals first
          | exact ⟨(), hok (by unfold okV; omega)⟩
          | exact hbad (by unfold okV; omega)
      · have h00 : (0 : Int) < (j : Int) := by omega
        have hw1 : wr ((j : Int) - 1) = ((j - 1 : Nat) : Int) := by rw [wr_id (by omega) (by have := maxLen_lt; omega)]; omega
        have e3 := idx_sl 2 vs k' .i64 (j - 1) _ (var_at hv (by omega)) rfl
        simp only [IV.cells] at e3
        simp only [id WWd, IR.o, IR.e, Nat.reduceBEq, Nat.reduceAdd, reduceCtorEq, paramTm, List.map_cons, List.map_nil, forall_const, Option.map_some, Option.map_none, implies_true, hlt, e2]
        refine W_draw rfl ?_
        simp only [id WWd, IR.o, IR.e, Nat.reduceBEq, Nat.reduceAdd, reduceCtorEq, paramTm, List.map_cons, List.map_nil, forall_const, Option.map_some, Option.map_none, implies_true, hlt, e2, h00, hw, hw1, e3]
        repeat' (first | apply And.intro | intro _)
        all_goals first
          | exact ⟨(), hok ⟨by omega, by omega, by omega, by omega, fun _ => by omega⟩⟩
          | exact hbad (fun h2 => by have h3 := h2.2.2.2.2 hpos; have h4 := h2.1; have h5 := h2.2.1; have h6 := h2.2.2.1; have h7 := h2.2.2.2.1; omega)
    · intro _ hi
      simp only [id WWd, IR.o, IR.e, Nat.reduceBEq, Nat.reduceAdd, reduceCtorEq, paramTm, List.map_cons, List.map_nil, forall_const, Option.map_some, Option.map_none, implies_true]
      exact bool_eq (decide_eq_true ⟨by omega, by omega, fun j hj => ⟨hi j hj, hnc j hj⟩⟩)

theorem int_eq {a b : Int} (h : b = a) : some (AV.im (IV.sc (Value.int .i64 a))) = some (AV.im (IV.sc (Value.int .i64 b))) := by rw [h]

open Classical in
/-- What is wrong with a level. -/
noncomputable def lvErr (np nl c : Int) (vs : List IV) : Int := if okL c vs then (if ∃ j, j < vs.length ∧ np ≤ ixN vs j then 15 else if ∃ j, j < vs.length ∧ ixN vs j < 0 ∧ nl ≤ wr (-1 - ixN vs j) then 23 else 0) else 3

theorem lv3 {np nl c : Int} {vs : List IV} (h : ¬ okL c vs) : lvErr np nl c vs = 3 := by unfold lvErr; rw [if_neg h]
theorem lv15 {np nl c : Int} {vs : List IV} (h : okL c vs) {j : Nat} (hj : j < vs.length) (h1 : np ≤ ixN vs j) : lvErr np nl c vs = 15 := by unfold lvErr; rw [if_pos h, if_pos ⟨j, hj, h1⟩]
theorem lv23 {np nl c : Int} {vs : List IV} (h : okL c vs) (h0 : ∀ j, j < vs.length → ¬ np ≤ ixN vs j) {j : Nat} (hj : j < vs.length) (h1 : ixN vs j < 0 ∧ nl ≤ wr (-1 - ixN vs j)) : lvErr np nl c vs = 23 := by
  unfold lvErr; rw [if_pos h, if_neg (fun ⟨j, hj, h⟩ => h0 j hj h), if_pos ⟨j, hj, h1⟩]
theorem lv0 {np nl c : Int} {vs : List IV} (h : okL c vs) (h0 : ∀ j, j < vs.length → ¬ np ≤ ixN vs j) (h1 : ∀ j, j < vs.length → ¬ (ixN vs j < 0 ∧ nl ≤ wr (-1 - ixN vs j))) : lvErr np nl c vs = 0 := by
  unfold lvErr; rw [if_pos h, if_neg (fun ⟨j, hj, h⟩ => h0 j hj h), if_neg (fun ⟨j, hj, h⟩ => h1 j hj h)]

theorem upto {P : Nat → Prop} {j : Nat} (h : ∀ i, i < j → P i) (hj : P j) : ∀ i, i < j + 1 → P i := fun i hij => by
  rcases Nat.lt_or_ge i j with h3 | h3
  · exact h i h3
  · obtain rfl : i = j := by omega
    exact hj

theorem lv_spec {a b np nl c : Int} {vs : List IV} {k : SK} (hv : ∀ v ∈ vs, VarI v) (hn : vs.length ≤ maxLen) : ∀ h, callFn EC (ev EC) 101 [.im (.agg [.sc (.int .i64 a), .sc (.int .i64 np), .sc (.int .i64 b), .sc (.int .i64 nl)]), .im (.agg [.sc (.int .i64 c), .sl vs k])] h = some ⟨.im (.sc (.int .i64 (lvErr np nl c vs))), .none, .none, false⟩ := by
  intro h
  refine callFn_P (F := IR.f101) rfl rfl rfl rfl rfl rfl rfl rfl ?_
  simp only [strip_agg, List.map_cons, List.map_nil, flat_sc, flat_slK]
  generalize flatK vs k = k'
  unfold IR.f101
  by_cases hok : okL c vs
  case neg =>
    simp only [id WWd, IR.o, IR.e, Nat.reduceBEq, Nat.reduceAdd, reduceCtorEq, paramTm, List.map_cons, List.map_nil, forall_const, Option.map_some, Option.map_none, implies_true, valid_spec hv hn, hok, decide_false]
    exact int_eq (lv3 hok)
  simp only [id WWd, IR.o, IR.e, Nat.reduceBEq, Nat.reduceAdd, reduceCtorEq, paramTm, List.map_cons, List.map_nil, forall_const, Option.map_some, Option.map_none, implies_true, valid_spec hv hn, hok, decide_true]
  refine W_forI vs.length (fun j (_ : Unit) => ⟨[(4, .im (.sc (.int .i64 0))), (13, .im (.sl vs k')), (14, .im (.sc (.int .i64 vs.length))), (15, .im (.sc (.int .i64 (j : Int))))], [(2, [.im (.sc (.int .i64 a)), .im (.sc (.int .i64 np)), .im (.sc (.int .i64 b)), .im (.sc (.int .i64 nl))]), (3, [.im (.sc (.int .i64 c)), .im (.sl vs k')])], []⟩) (fun j _ => ∀ i, i < j → ¬ np ≤ ixN vs i) () ?_ (fun i hi => by omega) ?_ ?_
  · simp only [id WWd, IR.o, IR.e, Nat.reduceBEq, Nat.reduceAdd, reduceCtorEq, paramTm, List.map_cons, List.map_nil, forall_const, Option.map_some, Option.map_none, implies_true]
    rfl
  · intro j _ hj hi
    have hx := var_at hv hj
    have hlt : (j : Int) < vs.length := by omega
    have hw : wr ((j : Int) + 1) = ((j + 1 : Nat) : Int) := wr_id (by omega) (by have := maxLen_lt; omega)
    have e2 := idx_sl 2 vs k' .i64 j _ hx rfl
    simp only [IV.cells] at e2
    simp only [id WWd, IR.o, IR.e, Nat.reduceBEq, Nat.reduceAdd, reduceCtorEq, paramTm, List.map_cons, List.map_nil, forall_const, Option.map_some, Option.map_none, implies_true, hlt, e2, hw]
    exact ⟨fun h1 => int_eq (lv15 hok hj (by omega)), fun h1 => ⟨(), upto hi (by omega)⟩⟩
  · intro _ hi
    simp only [id WWd, IR.o, IR.e, Nat.reduceBEq, Nat.reduceAdd, reduceCtorEq, paramTm, List.map_cons, List.map_nil, forall_const, Option.map_some, Option.map_none, implies_true]
    refine W_forI vs.length (fun j (_ : Unit) => ⟨[(4, .im (.sc (.int .i64 0))), (26, .im (.sl vs k')), (27, .im (.sc (.int .i64 vs.length))), (28, .im (.sc (.int .i64 (j : Int))))], [(2, [.im (.sc (.int .i64 a)), .im (.sc (.int .i64 np)), .im (.sc (.int .i64 b)), .im (.sc (.int .i64 nl))])], []⟩) (fun j _ => ∀ i, i < j → ¬ (ixN vs i < 0 ∧ nl ≤ wr (-1 - ixN vs i))) () ?_ (fun i hi => by omega) ?_ ?_
    · simp only [id WWd, IR.o, IR.e, Nat.reduceBEq, Nat.reduceAdd, reduceCtorEq, paramTm, List.map_cons, List.map_nil, forall_const, Option.map_some, Option.map_none, implies_true]
      rfl
    · intro j _ hj hi2
      have hx := var_at hv hj
      have hlt : (j : Int) < vs.length := by omega
      have hw : wr ((j : Int) + 1) = ((j + 1 : Nat) : Int) := wr_id (by omega) (by have := maxLen_lt; omega)
      have e2 := idx_sl 2 vs k' .i64 j _ hx rfl
      simp only [IV.cells] at e2
      simp only [id WWd, IR.o, IR.e, Nat.reduceBEq, Nat.reduceAdd, reduceCtorEq, paramTm, List.map_cons, List.map_nil, forall_const, Option.map_some, Option.map_none, implies_true, hlt, e2, hw]
      repeat' (first | apply And.intro | intro _)
      all_goals first
        | exact ⟨(), upto hi2 (by omega)⟩
        | exact int_eq (lv23 hok hi hj (by omega))
    · intro _ hi2
      simp only [id WWd, IR.o, IR.e, Nat.reduceBEq, Nat.reduceAdd, reduceCtorEq, paramTm, List.map_cons, List.map_nil, forall_const, Option.map_some, Option.map_none, implies_true]
      exact int_eq (lv0 hok hi hi2)

theorem lv_ref {np nl c : Int} {vs : List IV} {k : SK} (hnp : 0 ≤ np) (hv : ∀ v ∈ vs, VarI v) (hn : vs.length ≤ maxLen) : ∀ h, callFn EC (ev EC) 104 [.im (.agg [.sc (.int .i64 c), .sl vs k]), .im (.sc (.int .i64 np)), .im (.sc (.int .i64 nl))] h = some ⟨.im (.sc (.int .i64 (lvErr np nl c vs))), .none, .none, false⟩ := by
  intro h
  refine callFn_P (F := IR.f104) rfl rfl rfl rfl rfl rfl rfl rfl ?_
  simp only [strip_agg, List.map_cons, List.map_nil, flat_sc, flat_slK]
  generalize flatK vs k = k'
  unfold IR.f104
  by_cases hok : okL c vs
  case neg =>
    simp only [id WWd, IR.o, IR.e, Nat.reduceBEq, Nat.reduceAdd, reduceCtorEq, paramTm, List.map_cons, List.map_nil, forall_const, Option.map_some, Option.map_none, implies_true, valid_ref hv hn, hok, decide_false]
    exact int_eq (lv3 hok)
  simp only [id WWd, IR.o, IR.e, Nat.reduceBEq, Nat.reduceAdd, reduceCtorEq, paramTm, List.map_cons, List.map_nil, forall_const, Option.map_some, Option.map_none, implies_true, valid_ref hv hn, hok, decide_true]
  refine W_forI vs.length (fun j (_ : Unit) => ⟨[(1, .im (.sc (.int .i64 np))), (2, .im (.sc (.int .i64 nl))), (6, .im (.sc (.int .i64 0))), (7, .im (.sc (.int .i64 (j : Int))))], [(3, [.im (.sc (.int .i64 c)), .im (.sl vs k')])], []⟩) (fun j _ => ∀ i, i < j → ¬ np ≤ ixN vs i) () ?_ (fun i hi => by omega) ?_ ?_
  · simp only [id WWd, IR.o, IR.e, Nat.reduceBEq, Nat.reduceAdd, reduceCtorEq, paramTm, List.map_cons, List.map_nil, forall_const, Option.map_some, Option.map_none, implies_true]
    rfl
  · intro j _ hj hi
    have hx := var_at hv hj
    have hlt : (j : Int) < vs.length := by omega
    have hw : wr ((j : Int) + 1) = ((j + 1 : Nat) : Int) := wr_id (by omega) (by have := maxLen_lt; omega)
    have e2 := idx_sl 2 vs k' .i64 j _ hx rfl
    simp only [IV.cells] at e2
    simp only [id WWd, IR.o, IR.e, Nat.reduceBEq, Nat.reduceAdd, reduceCtorEq, paramTm, List.map_cons, List.map_nil, forall_const, Option.map_some, Option.map_none, implies_true, hlt, e2, hw]
    repeat' (first | apply And.intro | intro _)
    all_goals first
      | exact ⟨(), upto hi (by omega)⟩
      | exact int_eq (lv15 hok hj (by omega))
  · intro _ hi
    simp only [id WWd, IR.o, IR.e, Nat.reduceBEq, Nat.reduceAdd, reduceCtorEq, paramTm, List.map_cons, List.map_nil, forall_const, Option.map_some, Option.map_none, implies_true]
    refine W_forI vs.length (fun j (_ : Unit) => ⟨[(2, .im (.sc (.int .i64 nl))), (6, .im (.sc (.int .i64 0))), (8, .im (.sc (.int .i64 (j : Int))))], [(3, [.im (.sc (.int .i64 c)), .im (.sl vs k')])], []⟩) (fun j _ => ∀ i, i < j → ¬ (ixN vs i < 0 ∧ nl ≤ wr (-1 - ixN vs i))) () ?_ (fun i hi => by omega) ?_ ?_
    · simp only [id WWd, IR.o, IR.e, Nat.reduceBEq, Nat.reduceAdd, reduceCtorEq, paramTm, List.map_cons, List.map_nil, forall_const, Option.map_some, Option.map_none, implies_true]
      rfl
    · intro j _ hj hi2
      have hx := var_at hv hj
      have hlt : (j : Int) < vs.length := by omega
      have hw : wr ((j : Int) + 1) = ((j + 1 : Nat) : Int) := wr_id (by omega) (by have := maxLen_lt; omega)
      have e2 := idx_sl 2 vs k' .i64 j _ hx rfl
      simp only [IV.cells] at e2
      simp only [id WWd, IR.o, IR.e, Nat.reduceBEq, Nat.reduceAdd, reduceCtorEq, paramTm, List.map_cons, List.map_nil, forall_const, Option.map_some, Option.map_none, implies_true, hlt, e2, hw]
      repeat' (first | apply And.intro | intro _)
      all_goals first
        | exact ⟨(), upto hi2 (by omega)⟩
        | exact int_eq (lv23 hok hi hj (by omega))
    · intro _ hi2
      simp only [id WWd, IR.o, IR.e, Nat.reduceBEq, Nat.reduceAdd, reduceCtorEq, paramTm, List.map_cons, List.map_nil, forall_const, Option.map_some, Option.map_none, implies_true]
      exact int_eq (lv0 hok hi hi2)
end Go.Em
namespace Go.Em
open Go
set_option maxRecDepth 20000

/-- What is wrong with levels: the first that something is wrong with. -/
noncomputable def lvE (np nl : Int) : IV → Int
  | .agg [.sc (.int _ c), .sl vs _] => lvErr np nl c vs
  | _ => 0
noncomputable def lsErr (np nl : Int) : List IV → Int
  | [] => 0
  | x :: r => if lvE np nl x = 0 then lsErr np nl r else lvE np nl x

/-- What is wrong with a node itself. -/
noncomputable def ndE (va np me nl d k i : Int) (s : ByteArray) (ls ks : List IV) : Int :=
  if fitP k i (bytesEq s.data.toList []) ls.length ks.length then
    if k = 3 ∧ nameB s = false then 29 else if 8 < (ls.length : Int) then 6 else if lsErr np nl ls = 0 then
      if k = 0 ∧ (i < 0 ∨ va ≤ wr (i - d)) then 24 else if k = 12 ∧ (i < 0 ∨ me ≤ i) then 23 else 0
    else lsErr np nl ls
  else 3

section
variable {va np me nl d k i : Int} {s : ByteArray} {ls ks : List IV}
theorem nd3 (h : ¬ fitP k i (bytesEq s.data.toList []) ls.length ks.length) : ndE va np me nl d k i s ls ks = 3 := by unfold ndE; rw [if_neg h]
theorem nd29 (h : fitP k i (bytesEq s.data.toList []) ls.length ks.length) (h1 : k = 3 ∧ nameB s = false) : ndE va np me nl d k i s ls ks = 29 := by unfold ndE; rw [if_pos h, if_pos h1]
theorem nd6 (h : fitP k i (bytesEq s.data.toList []) ls.length ks.length) (h1 : ¬ (k = 3 ∧ nameB s = false)) (h2 : 8 < (ls.length : Int)) : ndE va np me nl d k i s ls ks = 6 := by unfold ndE; rw [if_pos h, if_neg h1, if_pos h2]
theorem ndl (h : fitP k i (bytesEq s.data.toList []) ls.length ks.length) (h1 : ¬ (k = 3 ∧ nameB s = false)) (h2 : ¬ 8 < (ls.length : Int)) (h3 : lsErr np nl ls ≠ 0) : ndE va np me nl d k i s ls ks = lsErr np nl ls := by unfold ndE; rw [if_pos h, if_neg h1, if_neg h2, if_neg h3]
theorem nd24 (h : fitP k i (bytesEq s.data.toList []) ls.length ks.length) (h1 : ¬ (k = 3 ∧ nameB s = false)) (h2 : ¬ 8 < (ls.length : Int)) (h3 : lsErr np nl ls = 0) (h4 : k = 0 ∧ (i < 0 ∨ va ≤ wr (i - d))) : ndE va np me nl d k i s ls ks = 24 := by unfold ndE; rw [if_pos h, if_neg h1, if_neg h2, if_pos h3, if_pos h4]
theorem nd23 (h : fitP k i (bytesEq s.data.toList []) ls.length ks.length) (h1 : ¬ (k = 3 ∧ nameB s = false)) (h2 : ¬ 8 < (ls.length : Int)) (h3 : lsErr np nl ls = 0) (h4 : ¬ (k = 0 ∧ (i < 0 ∨ va ≤ wr (i - d)))) (h5 : k = 12 ∧ (i < 0 ∨ me ≤ i)) : ndE va np me nl d k i s ls ks = 23 := by unfold ndE; rw [if_pos h, if_neg h1, if_neg h2, if_pos h3, if_neg h4, if_pos h5]
theorem nd0 (h : fitP k i (bytesEq s.data.toList []) ls.length ks.length) (h1 : ¬ (k = 3 ∧ nameB s = false)) (h2 : ¬ 8 < (ls.length : Int)) (h3 : lsErr np nl ls = 0) (h4 : ¬ (k = 0 ∧ (i < 0 ∨ va ≤ wr (i - d)))) (h5 : ¬ (k = 12 ∧ (i < 0 ∨ me ≤ i))) : ndE va np me nl d k i s ls ks = 0 := by unfold ndE; rw [if_pos h, if_neg h1, if_neg h2, if_pos h3, if_neg h4, if_neg h5]
end

theorem nd_spec {va np me nl d k i : Int} {s : ByteArray} {ls ks : List IV} {lk kk : SK} (hl : ∀ l ∈ ls, LevI l) (hm : ls.length ≤ maxLen) (hs : s.size ≤ maxLen) : ∀ h, callFn EC (ev EC) 53 [.im (.agg [.sc (.int .i64 va), .sc (.int .i64 np), .sc (.int .i64 me), .sc (.int .i64 nl)]), .im (.agg [.sc (.int .i64 k), .sc (.int .i64 i), .sc (.string s), .sl ls lk, .sl ks kk]), .im (.sc (.int .i64 d))] h = some ⟨.im (.sc (.int .i64 (ndE va np me nl d k i s ls ks))), .none, .none, false⟩ := by
  intro h
  refine callFn_P (F := IR.f53) rfl rfl rfl rfl rfl rfl rfl rfl ?_
  simp only [strip_agg, List.map_cons, List.map_nil, flat_sc, flat_slK]
  generalize flatK ls lk = lk'
  generalize flatK ks kk = kk'
  unfold IR.f53
  by_cases hf : fitP k i (bytesEq s.data.toList []) ls.length ks.length
  case neg =>
    simp only [id WWd, IR.o, IR.e, Nat.reduceBEq, Nat.reduceAdd, reduceCtorEq, paramTm, List.map_cons, List.map_nil, forall_const, Option.map_some, Option.map_none, implies_true, fit_spec, hf, decide_false]
    exact int_eq (nd3 hf)
  have hcase : (k = 3 ∧ nameB s = false) ∨ (k = 3 ∧ nameB s = true ∧ 8 < (ls.length : Int)) ∨ (k = 3 ∧ nameB s = true ∧ ¬ 8 < (ls.length : Int)) ∨ (¬ k = 3 ∧ True ∧ ¬ 8 < (ls.length : Int)) := by
    by_cases h1 : k = 3
    · cases h2 : nameB s
      · exact .inl ⟨h1, rfl⟩
      · by_cases h3 : 8 < (ls.length : Int)
        · exact .inr (.inl ⟨h1, rfl, h3⟩)
        · exact .inr (.inr (.inl ⟨h1, rfl, h3⟩))
    · have h4 := id hf
      unfold fitP at h4
      exact .inr (.inr (.inr ⟨h1, trivial, by omega⟩))
  rcases hcase with ⟨hk, hb⟩ | ⟨hk, hb, h8⟩ | ⟨hk, hb, h8⟩ | ⟨hk, hb, h8⟩
  · simp only [id WWd, IR.o, IR.e, Nat.reduceBEq, Nat.reduceAdd, reduceCtorEq, paramTm, List.map_cons, List.map_nil, forall_const, Option.map_some, Option.map_none, implies_true, fit_spec, hf, decide_true, eq_true hk, name_spec s hs, hb]
    exact int_eq (nd29 hf ⟨hk, hb⟩)
  · simp only [id WWd, IR.o, IR.e, Nat.reduceBEq, Nat.reduceAdd, reduceCtorEq, paramTm, List.map_cons, List.map_nil, forall_const, Option.map_some, Option.map_none, implies_true, fit_spec, hf, decide_true, eq_true hk, name_spec s hs, hb, h8]
    exact int_eq (nd6 hf (by rw [hb]; simp) h8)
  all_goals
    have hnn : ¬ (k = 3 ∧ nameB s = false) := by first | exact fun h => hk h.1 | (rw [hb]; simp)
    first
      | have hk' := eq_false hk
        simp only [id WWd, IR.o, IR.e, Nat.reduceBEq, Nat.reduceAdd, reduceCtorEq, paramTm, List.map_cons, List.map_nil, forall_const, Option.map_some, Option.map_none, implies_true, fit_spec, hf, decide_true, eq_false hk, h8]
      | simp only [id WWd, IR.o, IR.e, Nat.reduceBEq, Nat.reduceAdd, reduceCtorEq, paramTm, List.map_cons, List.map_nil, forall_const, Option.map_some, Option.map_none, implies_true, fit_spec, hf, decide_true, eq_true hk, name_spec s hs, hb, h8]
    refine W_forI ls.length (fun j (_ : Unit) => ⟨[(2, .im (.sc (.int .i64 d))), (6, .im (.sc (.int .i64 0))), (25, .im (.sl ls lk')), (26, .im (.sc (.int .i64 ls.length))), (27, .im (.sc (.int .i64 (j : Int))))], [(3, [.im (.sc (.int .i64 va)), .im (.sc (.int .i64 np)), .im (.sc (.int .i64 me)), .im (.sc (.int .i64 nl))]), (4, [.im (.sc (.int .i64 k)), .im (.sc (.int .i64 i)), .im (.sc (.string s)), .im (.sl ls lk'), .im (.sl ks kk')])], []⟩) (fun j _ => lsErr np nl ls = lsErr np nl (ls.drop j)) () ?_ rfl ?_ ?_
    · simp only [id WWd, IR.o, IR.e, Nat.reduceBEq, Nat.reduceAdd, reduceCtorEq, paramTm, List.map_cons, List.map_nil, forall_const, Option.map_some, Option.map_none, implies_true]
      rfl
    · intro j _ hj hi
      obtain ⟨x, hx⟩ : ∃ x, ls[j]? = some x := ⟨_, List.getElem?_eq_getElem hj⟩
      have hxm := List.mem_of_getElem? hx
      have hlt : (j : Int) < ls.length := by omega
      have hw : wr ((j : Int) + 1) = ((j + 1 : Nat) : Int) := wr_id (by omega) (by have := maxLen_lt; omega)
      obtain ⟨c1, vs1, k1, hv1, hn1⟩ := hl x hxm
      have e2 := idx_sl 2 ls lk' .i64 j _ hx rfl
      simp only [IV.cells] at e2
      rw [drop_get hx, lsErr] at hi
      have hE : lvE np nl (.agg [.sc (.int .i64 c1), .sl vs1 k1]) = lvErr np nl c1 vs1 := rfl
      rw [hE] at hi
      simp only [id WWd, IR.o, IR.e, Nat.reduceBEq, Nat.reduceAdd, reduceCtorEq, paramTm, List.map_cons, List.map_nil, forall_const, Option.map_some, Option.map_none, implies_true, hlt, e2, hw, lv_spec hv1 hn1]
      refine ⟨fun h0 => int_eq ?_, fun h0 => ⟨(), ?_⟩⟩
      case refine_2 => rw [hi, if_pos h0]
      · rw [if_neg h0] at hi
        rw [ndl hf hnn h8 (by rw [hi]; exact h0), hi]
    · intro _ hi
      rw [List.drop_length, lsErr] at hi
      simp only [id WWd, IR.o, IR.e, Nat.reduceBEq, Nat.reduceAdd, reduceCtorEq, paramTm, List.map_cons, List.map_nil, forall_const, Option.map_some, Option.map_none, implies_true]
      repeat' (first | apply And.intro | intro _)
      all_goals
        refine int_eq ?_
        first
          | exact nd24 hf hnn h8 hi (by omega)
          | exact nd23 hf hnn h8 hi (by omega) (by omega)
          | exact nd0 hf hnn h8 hi (by omega) (by omega)
end Go.Em
namespace Go.Em
open Go
set_option maxRecDepth 20000

theorem wrap64 (n : Int) : IntKind.wrap .i64 n = if 9223372036854775808 ≤ n % 18446744073709551616 then n % 18446744073709551616 - 18446744073709551616 else n % 18446744073709551616 := by
  simp [IntKind.wrap, IntKind.bits, IntKind.signed]

theorem wr_spec (n : Int) : (-9223372036854775808 ≤ wr n ∧ wr n < 9223372036854775808) ∧ ∃ q : Int, wr n = n + q * 18446744073709551616 := by
  have key : (-9223372036854775808 ≤ IntKind.wrap .i64 n ∧ IntKind.wrap .i64 n < 9223372036854775808) ∧ ∃ q : Int, IntKind.wrap .i64 n = n + q * 18446744073709551616 := by
    rw [wrap64]
    split
    · exact ⟨by omega, -(n / 18446744073709551616) - 1, by omega⟩
    · exact ⟨by omega, -(n / 18446744073709551616), by omega⟩
  unfold wr
  cases n with
  | ofNat n =>
    simp only [wrapF]
    cases h : Nat.blt n 9223372036854775808 with
    | true =>
      rw [Nat.blt_eq] at h
      show (-9223372036854775808 ≤ (n : Int) ∧ (n : Int) < 9223372036854775808) ∧ ∃ q : Int, (n : Int) = n + q * 18446744073709551616
      exact ⟨⟨by omega, by omega⟩, 0, by omega⟩
    | false => exact key
  | negSucc n =>
    simp only [wrapF]
    cases h : Nat.blt n 9223372036854775808 with
    | true =>
      rw [Nat.blt_eq] at h
      show (-9223372036854775808 ≤ Int.negSucc n ∧ Int.negSucc n < 9223372036854775808) ∧ ∃ q : Int, Int.negSucc n = Int.negSucc n + q * 18446744073709551616
      exact ⟨⟨by omega, by omega⟩, 0, by omega⟩
    | false => exact key

theorem wr_wr (n : Int) : wr (wr n) = wr n := wr_id (wr_spec n).1.1 (wr_spec n).1.2
theorem wr_cong {a b : Int} (h : ∃ q : Int, a = b + q * 18446744073709551616) : wr a = wr b := by
  obtain ⟨q, h⟩ := h
  obtain ⟨⟨a1, a2⟩, qa, a3⟩ := wr_spec a
  obtain ⟨⟨b1, b2⟩, qb, b3⟩ := wr_spec b
  omega
theorem wr_addL (a b : Int) : wr (wr a + b) = wr (a + b) := by
  obtain ⟨_, q, h⟩ := wr_spec a
  exact wr_cong ⟨q, by rw [h]; omega⟩
theorem wr_addR (a b : Int) : wr (a + wr b) = wr (a + b) := by rw [Int.add_comm, wr_addL, Int.add_comm]

mutual
/-- What is wrong with a term: the first node that something is wrong with. -/
noncomputable def errT (va np me nl : Int) : IV → Int → Int
  | .agg [.sc (.int _ k), .sc (.int _ i), .sc (.string s), .sl ls _, .sl ks _], d => if ndE va np me nl d k i s ls ks = 0 then errL va np me nl k ks 0 d else ndE va np me nl d k i s ls ks
  | _, _ => 0
noncomputable def errL (va np me nl k : Int) : List IV → Nat → Int → Int
  | [], _, _ => 0
  | x :: r, j, d => if errT va np me nl x (wr (d + belN k j)) = 0 then errL va np me nl k r (j + 1) d else errT va np me nl x (wr (d + belN k j))
end

theorem err_ref {va np me nl : Int} (hnp : 0 ≤ np) {v : IV} (hv : TrmI v) : ∀ d, ∀ h, callFn EC (ev EC) 55 [.im v, .im (.sc (.int .i64 d)), .im (.sc (.int .i64 va)), .im (.sc (.int .i64 np)), .im (.sc (.int .i64 me)), .im (.sc (.int .i64 nl))] h = some ⟨.im (.sc (.int .i64 (errT va np me nl v d))), .none, .none, false⟩ := by
  induction hv with
  | mk k i s ls ks lk kk hk hn hl hm hs ih =>
  intro d h
  refine callFn_P (F := IR.f55) rfl rfl rfl rfl rfl rfl rfl rfl ?_
  rw [errT]
  simp only [strip_agg, List.map_cons, List.map_nil, flat_sc, flat_slK]
  generalize flatK ls lk = lk'
  generalize flatK ks kk = kk'
  unfold IR.f55
  by_cases hf : fitP k i (bytesEq s.data.toList []) ls.length ks.length
  case neg =>
    simp only [id WWd, IR.o, IR.e, Nat.reduceBEq, Nat.reduceAdd, reduceCtorEq, paramTm, List.map_cons, List.map_nil, forall_const, Option.map_some, Option.map_none, implies_true, fit_ref, hf, decide_false]
    rw [nd3 hf, if_neg (by omega)]
  have hcase : (k = 3 ∧ nameB s = false) ∨ (k = 3 ∧ nameB s = true) ∨ (¬ k = 3 ∧ True) := by
    by_cases h1 : k = 3
    · cases h2 : nameB s
      · exact .inl ⟨h1, rfl⟩
      · exact .inr (.inl ⟨h1, rfl⟩)
    · exact .inr (.inr ⟨h1, trivial⟩)
  rcases hcase with ⟨hk3, hb⟩ | ⟨hk3, hb⟩ | ⟨hk3, hb⟩
  · simp only [id WWd, IR.o, IR.e, Nat.reduceBEq, Nat.reduceAdd, reduceCtorEq, paramTm, List.map_cons, List.map_nil, forall_const, Option.map_some, Option.map_none, implies_true, fit_ref, hf, decide_true, eq_true hk3, name_ref s hs, hb]
    rw [nd29 hf ⟨hk3, hb⟩, if_neg (by omega)]
  all_goals
    have hnn : ¬ (k = 3 ∧ nameB s = false) := by first | exact fun h => hk3 h.1 | (rw [hb]; simp)
    by_cases h8 : 8 < (ls.length : Int)
    · first
        | have hk' := eq_false hk3
          simp only [id WWd, IR.o, IR.e, Nat.reduceBEq, Nat.reduceAdd, reduceCtorEq, paramTm, List.map_cons, List.map_nil, forall_const, Option.map_some, Option.map_none, implies_true, fit_ref, hf, decide_true, eq_false hk3, h8]
        | simp only [id WWd, IR.o, IR.e, Nat.reduceBEq, Nat.reduceAdd, reduceCtorEq, paramTm, List.map_cons, List.map_nil, forall_const, Option.map_some, Option.map_none, implies_true, fit_ref, hf, decide_true, eq_true hk3, name_ref s hs, hb, h8]
      rw [nd6 hf hnn h8, if_neg (by omega)]
    first
      | have hk' := eq_false hk3
        simp only [id WWd, IR.o, IR.e, Nat.reduceBEq, Nat.reduceAdd, reduceCtorEq, paramTm, List.map_cons, List.map_nil, forall_const, Option.map_some, Option.map_none, implies_true, fit_ref, hf, decide_true, eq_false hk3, h8]
      | simp only [id WWd, IR.o, IR.e, Nat.reduceBEq, Nat.reduceAdd, reduceCtorEq, paramTm, List.map_cons, List.map_nil, forall_const, Option.map_some, Option.map_none, implies_true, fit_ref, hf, decide_true, eq_true hk3, name_ref s hs, hb, h8]
    refine W_forI ls.length (fun j (_ : Unit) => ⟨[(1, .im (.sc (.int .i64 d))), (2, .im (.sc (.int .i64 va))), (3, .im (.sc (.int .i64 np))), (4, .im (.sc (.int .i64 me))), (5, .im (.sc (.int .i64 nl))), (12, .im (.sc (.int .i64 0))), (13, .im (.sc (.int .i64 (j : Int))))], [(6, [.im (.sc (.int .i64 k)), .im (.sc (.int .i64 i)), .im (.sc (.string s)), .im (.sl ls lk'), .im (.sl ks kk')])], []⟩) (fun j _ => lsErr np nl ls = lsErr np nl (ls.drop j)) () ?_ rfl ?_ ?_
    · simp only [id WWd, IR.o, IR.e, Nat.reduceBEq, Nat.reduceAdd, reduceCtorEq, paramTm, List.map_cons, List.map_nil, forall_const, Option.map_some, Option.map_none, implies_true]
      rfl
    · intro j _ hj hi
      obtain ⟨x, hx⟩ : ∃ x, ls[j]? = some x := ⟨_, List.getElem?_eq_getElem hj⟩
      have hxm := List.mem_of_getElem? hx
      have hlt : (j : Int) < ls.length := by omega
      have hw : wr ((j : Int) + 1) = ((j + 1 : Nat) : Int) := wr_id (by omega) (by have := maxLen_lt; omega)
      obtain ⟨c1, vs1, k1, hv1, hn1⟩ := hl x hxm
      have e2 := idx_sl 2 ls lk' .i64 j _ hx rfl
      simp only [IV.cells] at e2
      rw [drop_get hx, lsErr] at hi
      have hE : lvE np nl (.agg [.sc (.int .i64 c1), .sl vs1 k1]) = lvErr np nl c1 vs1 := rfl
      rw [hE] at hi
      simp only [id WWd, IR.o, IR.e, Nat.reduceBEq, Nat.reduceAdd, reduceCtorEq, paramTm, List.map_cons, List.map_nil, forall_const, Option.map_some, Option.map_none, implies_true, hlt, e2, hw, lv_ref hnp hv1 hn1]
      refine ⟨fun h0 => int_eq ?_, fun h0 => ⟨(), ?_⟩⟩
      case refine_2 => rw [hi, if_pos h0]
      · rw [if_neg h0] at hi
        have h9 := ndl (va := va) (me := me) (d := d) hf hnn h8 (by rw [hi]; exact h0)
        rw [if_neg (by rw [h9, hi]; exact h0), h9, hi]
    · intro _ hi
      rw [List.drop_length, lsErr] at hi
      simp only [id WWd, IR.o, IR.e, Nat.reduceBEq, Nat.reduceAdd, reduceCtorEq, paramTm, List.map_cons, List.map_nil, forall_const, Option.map_some, Option.map_none, implies_true]
      repeat' (first | apply And.intro | intro _)
      all_goals first
        | (refine int_eq ?_; rw [nd24 hf hnn h8 hi (by omega), if_neg (by omega)]; done)
        | (refine int_eq ?_; rw [nd23 hf hnn h8 hi (by omega) (by omega), if_neg (by omega)]; done)
        | skip
      all_goals
        have hn0 : ndE va np me nl d k i s ls ks = 0 := nd0 hf hnn h8 hi (by omega) (by omega)
        rw [hn0, if_pos rfl]
        refine W_forI ks.length (fun j (_ : Unit) => ⟨[(1, .im (.sc (.int .i64 d))), (2, .im (.sc (.int .i64 va))), (3, .im (.sc (.int .i64 np))), (4, .im (.sc (.int .i64 me))), (5, .im (.sc (.int .i64 nl))), (12, .im (.sc (.int .i64 0))), (15, .im (.sc (.int .i64 (j : Int))))], [(6, [.im (.sc (.int .i64 k)), .im (.sc (.int .i64 i)), .im (.sc (.string s)), .im (.sl ls lk'), .im (.sl ks kk')])], []⟩) (fun j _ => errL va np me nl k ks 0 d = errL va np me nl k (ks.drop j) j d) () ?_ rfl ?_ ?_
        · simp only [id WWd, IR.o, IR.e, Nat.reduceBEq, Nat.reduceAdd, reduceCtorEq, paramTm, List.map_cons, List.map_nil, forall_const, Option.map_some, Option.map_none, implies_true]
          rfl
        · intro j _ hj hi2
          obtain ⟨x, hx⟩ : ∃ x, ks[j]? = some x := ⟨_, List.getElem?_eq_getElem hj⟩
          have hxm := List.mem_of_getElem? hx
          have hlt : (j : Int) < ks.length := by omega
          have hw : wr ((j : Int) + 1) = ((j + 1 : Nat) : Int) := wr_id (by omega) (by have := maxLen_lt; omega)
          have hc := ih x hxm
          rw [drop_get hx, errL] at hi2
          obtain ⟨k1, i1, s1, ls1, ks1, lk1, kk1, _, _, _, _, _⟩ := hk x hxm
          have e2 := idx_sl 5 ks kk' .i64 j _ hx rfl
          simp only [IV.cells] at e2
          simp only [id WWd, IR.o, IR.e, Nat.reduceBEq, Nat.reduceAdd, reduceCtorEq, paramTm, List.map_cons, List.map_nil, forall_const, Option.map_some, Option.map_none, implies_true, hlt]
          refine W_draw rfl ?_
          simp only [id WWd, IR.o, IR.e, Nat.reduceBEq, Nat.reduceAdd, reduceCtorEq, paramTm, List.map_cons, List.map_nil, forall_const, Option.map_some, Option.map_none, implies_true, e2, bel_ref, hc, hw]
          refine ⟨fun h0 => int_eq ?_, fun h0 => ⟨(), ?_⟩⟩
          · rw [hi2, if_neg h0]
          · rw [hi2, if_pos h0]
        · intro _ hi2
          rw [List.drop_length, errL] at hi2
          simp only [id WWd, IR.o, IR.e, Nat.reduceBEq, Nat.reduceAdd, reduceCtorEq, paramTm, List.map_cons, List.map_nil, forall_const, Option.map_some, Option.map_none, implies_true]
          exact int_eq hi2
end Go.Em
namespace Go.Em.IR
open Go Go.Em
/-- What a round of the loop over the nodes does, ahead of its body and in it. -/
def rAs : ICode := (.seq (.region [o 13 (.mv (.t 27))])
(.region [o 14 (.lalloc [(.im (.sc (.int .i64 0))), (.im (.sc (.int .i64 0))), (.im (.sc (.string ⟨#[]⟩))), (.im (.sl [] .nil)), (.im (.sl [] .nil))]),
 e (.st 5 (.b 14) (.t 28))]))
def rBody : ICode := (.block 1 (.seq (.seq (.region [o 29 (.ld 4 true (.t 11)),
 o 30 (.ld 5 true (.b 14)),
 o 31 (.mv (.t 13)),
 o 32 (.call 53 [(.t 29), (.t 30), (.t 31)]),
 o 15 (.mv (.t 32))])
(.seq (.region [o 33 (.mv (.t 15)),
 o 34 (.bin .neq 39 false true (.t 33) (.k (.im (.sc (.int .i64 0)))))])
(.cond (.t 34)
(.seq (.region [o 35 (.mv (.t 15)),
 e (.st 1 (.t 10) (.t 35))])
.ret)
.skip)))
(.region [o 36 (.ld 1 false (.t 12)),
 o 37 (.bin .add 3 false true (.t 36) (.k (.im (.sc (.int .i64 1))))),
 e (.st 1 (.t 12) (.t 37))])))
end Go.Em.IR
namespace Go.Em
open Go
set_option maxRecDepth 20000

def rTm : Tm := [(10, .ptr 0 0), (11, .ptr 1 0), (12, .ptr 2 0)]
/-- The memory at the time: the result, the scope, the count, the loop, what the walk is handed, its table, the walk. -/
noncomputable def HH (va np me nl r n : Int) (st : LS) (pd : Option Jump) : Heap := [.cells [.im (.sc (.int .i64 r))], .cells [.im (.sc (.int .i64 va)), .im (.sc (.int .i64 np)), .im (.sc (.int .i64 me)), .im (.sc (.int .i64 nl))], .cells [.im (.sc (.int .i64 n))], .loop st pd rTm [27, 28] IR.rAs IR.rBody, .cells [.yld 3], .frz useT, .cells [.fn (.func 98) [] [.ptr 4 0, .im (.ip useT), .ptr 6 0]]]
section
variable {va np me nl r n : Int} {st : LS} {pd : Option Jump}
theorem HH_1 : nthR (HH va np me nl r n st pd) 1 = some (.cells [.im (.sc (.int .i64 va)), .im (.sc (.int .i64 np)), .im (.sc (.int .i64 me)), .im (.sc (.int .i64 nl))]) := rfl
theorem HH_0 : nthR (HH va np me nl r n st pd) 0 = some (.cells [.im (.sc (.int .i64 r))]) := rfl
theorem HH_2 : nthR (HH va np me nl r n st pd) 2 = some (.cells [.im (.sc (.int .i64 n))]) := rfl
theorem HH_3 : nthR (HH va np me nl r n st pd) 3 = some (.loop st pd rTm [27, 28] IR.rAs IR.rBody) := rfl
theorem HH_4 : nthR (HH va np me nl r n st pd) 4 = some (.cells [.yld 3]) := rfl
theorem HH_6 : nthR (HH va np me nl r n st pd) 6 = some (.cells [.fn (.func 98) [] [.ptr 4 0, .im (.ip useT), .ptr 6 0]]) := rfl
theorem HS_0 (x : Int) : setR (HH va np me nl r n st pd) 0 (.cells [.im (.sc (.int .i64 x))]) = HH va np me nl x n st pd := rfl
theorem HS_2 (x : Int) : setR (HH va np me nl r n st pd) 2 (.cells [.im (.sc (.int .i64 x))]) = HH va np me nl r x st pd := rfl
theorem HS_3 (s : LS) (p : Option Jump) : setR (HH va np me nl r n st pd) 3 (.loop s p rTm [27, 28] IR.rAs IR.rBody) = HH va np me nl r n s p := rfl
end

/-- How a walk ends. -/
noncomputable def wRes (va np me nl e n : Int) : Res := ⟨.im (.sc (.bool (decide (e = 0)))), .heap, .heap (if e = 0 then HH va np me nl 0 n .ready none else HH va np me nl e n .done (some .ret)), false⟩
theorem wRes_t (va np me nl n : Int) : wRes va np me nl 0 n = ⟨.im (.sc (.bool true)), .heap, .heap (HH va np me nl 0 n .ready none), false⟩ := rfl
theorem wRes_f {va np me nl e n : Int} (h : ¬ e = 0) : wRes va np me nl e n = ⟨.im (.sc (.bool false)), .heap, .heap (HH va np me nl e n .done (some .ret)), false⟩ := by unfold wRes; rw [if_neg h, decide_eq_false h]

theorem round_spec {va np me nl n d k i : Int} {s : ByteArray} {ls ks : List IV} {lk kk : SK} (hl : ∀ l ∈ ls, LevI l) (hm : ls.length ≤ maxLen) (hs : s.size ≤ maxLen) : callYld (ev EC) 3 [.im (.sc (.int .i64 d)), .im (.agg [.sc (.int .i64 k), .sc (.int .i64 i), .sc (.string s), .sl ls lk, .sl ks kk])] (HH va np me nl 0 n .ready none) =
    some (wRes va np me nl (ndE va np me nl d k i s ls ks) (if ndE va np me nl d k i s ls ks = 0 then wr (n + 1) else n)) := by
  refine yld_of (tm' := (27, .im (.sc (.int .i64 d))) :: (28, .im (.agg [.sc (.int .i64 k), .sc (.int .i64 i), .sc (.string s), .sl ls lk, .sl ks kk])) :: rTm) HH_3 rfl rfl ?_
  unfold IR.rAs
  by_cases h0 : ndE va np me nl d k i s ls ks = 0
  · rw [h0, if_pos rfl, wRes_t]
    simp only [id WWd, IR.o, IR.e, Nat.reduceBEq, Nat.reduceAdd, reduceCtorEq, paramTm, List.map_cons, List.map_nil, forall_const, Option.map_some, Option.map_none, implies_true, HH_3, HS_3]
    unfold IR.rBody rTm
    simp only [id WWd, IR.o, IR.e, Nat.reduceBEq, Nat.reduceAdd, reduceCtorEq, paramTm, List.map_cons, List.map_nil, forall_const, Option.map_some, Option.map_none, implies_true, HS_3, HH_1, HH_2, HS_2, HH_3, nd_spec hl hm hs, h0]
  · rw [if_neg h0, wRes_f h0]
    simp only [id WWd, IR.o, IR.e, Nat.reduceBEq, Nat.reduceAdd, reduceCtorEq, paramTm, List.map_cons, List.map_nil, forall_const, Option.map_some, Option.map_none, implies_true, HH_3, HS_3]
    unfold IR.rBody rTm
    simp only [id WWd, IR.o, IR.e, Nat.reduceBEq, Nat.reduceAdd, reduceCtorEq, paramTm, List.map_cons, List.map_nil, forall_const, Option.map_some, Option.map_none, implies_true, HS_3, HH_1, HH_0, HS_0, HH_3, nd_spec hl hm hs, h0]
end Go.Em
namespace Go.Em
open Go
set_option maxRecDepth 20000

/-- Which part of a node of a kind is below a binder. -/
def bndN (k : Int) : Int := if k = 5 ∨ k = 6 ∨ k = 7 then 1 else if k = 11 then 2 else -1

theorem bel_bnd (k : Int) (j : Nat) : belN k j = if (j : Int) = bndN k then 1 else 0 := by
  unfold belN bndN
  split <;> split <;> first | rfl | (split <;> split <;> omega) | omega

theorem bnd_at {k : Int} (h0 : 0 ≤ k) (h1 : k < 13) : ∃ a b c d l, oIdxA 5 (some 13) (.im (.ip useT)) (.im (.sc (.int .i64 k))) = some ⟨.im (.ip (a :: b :: c :: d :: .sc (.int .i64 (bndN k)) :: l)), .none, .none, false⟩ := by
  have hk : k = 0 ∨ k = 1 ∨ k = 2 ∨ k = 3 ∨ k = 4 ∨ k = 5 ∨ k = 6 ∨ k = 7 ∨ k = 8 ∨ k = 9 ∨ k = 10 ∨ k = 11 ∨ k = 12 := by omega
  rcases hk with rfl | rfl | rfl | rfl | rfl | rfl | rfl | rfl | rfl | rfl | rfl | rfl | rfl
  all_goals exact ⟨_, _, _, _, _, rfl⟩

noncomputable def resS1 (v : AV) (h : Heap) : Option Res := resS [.tmp 0] ⟨[(0, v)], [], h⟩
theorem resS_tmp {t : Nat} {tm : Tm} {bx : Bx} {h : Heap} : resS [.tmp t] ⟨tm, bx, h⟩ = resS1 (getT tm t) h := by
  unfold resS1 resS
  simp only [resVals, resVal, getT_hit]
theorem resS_1 {v : IV} {h : Heap} : resS1 (.im v) h = some ⟨.im v, .heap, .heap h, false⟩ := resS_im (getT_hit _ _ _)

theorem walk_spec {va np me nl : Int} {v : IV} (hv : TrmI v) : ∀ d n : Int, wr d = d → ∃ n' : Int, (errT va np me nl v d = 0 → n' = wr (n + szOf v)) ∧
    callFn EC (ev EC) 98 [.im v, .im (.sc (.int .i64 d)), .ptr 4 0, .im (.ip useT), .ptr 6 0] (HH va np me nl 0 n .ready none) = some (wRes va np me nl (errT va np me nl v d) n') := by
  induction hv with
  | mk k i s ls ks lk kk hk hn hl hm hs ih =>
  intro d n hd
  have := callFn_SE (E := EC) (f := 98) (F := IR.f98) (args := [.im (.agg [.sc (.int .i64 k), .sc (.int .i64 i), .sc (.string s), .sl ls lk, .sl ks kk]), .im (.sc (.int .i64 d)), .ptr 4 0, .im (.ip useT), .ptr 6 0]) (h := HH va np me nl 0 n .ready none)
    (R := fun r => ∃ n' : Int, (errT va np me nl (.agg [.sc (.int .i64 k), .sc (.int .i64 i), .sc (.string s), .sl ls lk, .sl ks kk]) d = 0 → n' = wr (n + szOf (.agg [.sc (.int .i64 k), .sc (.int .i64 i), .sc (.string s), .sl ls lk, .sl ks kk]))) ∧ r = wRes va np me nl (errT va np me nl (.agg [.sc (.int .i64 k), .sc (.int .i64 i), .sc (.string s), .sl ls lk, .sl ks kk]) d) n') rfl rfl rfl rfl rfl rfl rfl rfl ?_
  · obtain ⟨_, ⟨n', h1, rfl⟩, h2⟩ := this
    exact ⟨n', h1, h2⟩
  rw [errT, szOf]
  unfold IR.f98
  have hr := round_spec (va := va) (np := np) (me := me) (nl := nl) (n := n) (d := d) (k := k) (i := i) (ks := ks) (lk := lk) (kk := kk) hl hm hs
  by_cases h0 : ndE va np me nl d k i s ls ks = 0
  case neg =>
    rw [wRes_f h0, if_neg h0] at hr
    rw [if_neg h0]
    simp only [id WWd, IR.o, IR.e, Nat.reduceBEq, Nat.reduceAdd, reduceCtorEq, paramTm, List.map_cons, List.map_nil, forall_const, Option.map_some, Option.map_none, implies_true, HH_4, hr, resS_tmp, resS_1]
    exact ⟨_, ⟨n, fun h => absurd h h0, rfl⟩, by rw [wRes_f h0]⟩
  rw [h0, if_pos rfl, wRes_t] at hr
  rw [if_pos h0]
  have hf : fitP k i (bytesEq s.data.toList []) ls.length ks.length := by
    by_cases hf : fitP k i (bytesEq s.data.toList []) ls.length ks.length
    · exact hf
    · rw [nd3 hf] at h0; omega
  have hk0 : ¬ k < 0 := by unfold fitP at hf; omega
  have hk13 : k < 13 := by unfold fitP at hf; omega
  obtain ⟨b0, b1, b2, b3, bl, hb⟩ := bnd_at (k := k) (by omega) hk13
  simp only [id WWd, IR.o, IR.e, Nat.reduceBEq, Nat.reduceAdd, reduceCtorEq, paramTm, List.map_cons, List.map_nil, forall_const, Option.map_some, Option.map_none, implies_true, HH_4, hr, hk0, hk13, hb]
  refine W_forI ks.length (fun j (x : Int) => ⟨[(1, .im (.sc (.int .i64 d))), (4, .ptr 6 0), (7, .im (.sc (.bool false))), (8, .im (.sc (.int .i64 (bndN k)))), (31, .im (.sl ks kk)), (32, .im (.sc (.int .i64 ks.length))), (33, .im (.sc (.int .i64 (j : Int))))], [], HH va np me nl 0 x .ready none⟩)
    (fun j x => errL va np me nl k ks 0 d = errL va np me nl k (ks.drop j) j d ∧ x = wr (n + szL (ks.take j) 1)) (wr (n + 1)) ?_ ⟨rfl, rfl⟩ ?_ ?_
  · simp only [id WWd, IR.o, IR.e, Nat.reduceBEq, Nat.reduceAdd, reduceCtorEq, paramTm, List.map_cons, List.map_nil, forall_const, Option.map_some, Option.map_none, implies_true]
    rfl
  · rintro j x1 hj ⟨hi, hx1⟩
    obtain ⟨x, hx⟩ : ∃ x, ks[j]? = some x := ⟨_, List.getElem?_eq_getElem hj⟩
    have hxm := List.mem_of_getElem? hx
    have hlt : (j : Int) < ks.length := by omega
    have hw : wr ((j : Int) + 1) = ((j + 1 : Nat) : Int) := wr_id (by omega) (by have := maxLen_lt; omega)
    have ht := take_snoc hx
    have hc := ih x hxm (wr (d + belN k j)) x1 (wr_wr _)
    rw [drop_get hx, errL] at hi
    obtain ⟨n2, hn2, hc⟩ := hc
    have hn3 : errT va np me nl x (wr (d + belN k j)) = 0 → n2 = wr (n + szL (ks.take (j + 1)) 1) := fun h => by
      rw [hn2 h, hx1, ht, szL_snoc, wr_addL, wr_addR, Int.add_assoc]
    obtain ⟨k1, i1, s1, ls1, ks1, lk1, kk1, _, _, _, _, _⟩ := hk x hxm
    have e2 := idx_sl 5 ks kk .i64 j _ hx rfl
    simp only [IV.cells] at e2
    by_cases he : errT va np me nl (.agg [.sc (.int .i64 k1), .sc (.int .i64 i1), .sc (.string s1), .sl ls1 lk1, .sl ks1 kk1]) (wr (d + belN k j)) = 0
    · rw [if_pos he] at hi
      have hn4 := hn3 he
      rw [he, wRes_t] at hc
      by_cases hjb : (j : Int) = bndN k
      · rw [bel_bnd, if_pos hjb] at hc
        simp only [id WWd, IR.o, IR.e, Nat.reduceBEq, Nat.reduceAdd, reduceCtorEq, paramTm, List.map_cons, List.map_nil, forall_const, Option.map_some, Option.map_none, implies_true, hlt, e2, eq_true hjb, HH_6, List.nil_append, List.cons_append, hc, hw]
        exact ⟨n2, rfl, hi, hn4⟩
      · rw [bel_bnd, if_neg hjb, Int.add_zero, hd] at hc
        simp only [id WWd, IR.o, IR.e, Nat.reduceBEq, Nat.reduceAdd, reduceCtorEq, paramTm, List.map_cons, List.map_nil, forall_const, Option.map_some, Option.map_none, implies_true, hlt, e2, eq_false hjb, HH_6, List.nil_append, List.cons_append, hc, hw]
        exact ⟨n2, rfl, hi, hn4⟩
    · rw [if_neg he] at hi
      rw [wRes_f he] at hc
      have hne : ¬ errL va np me nl k ks 0 d = 0 := by rw [hi]; exact he
      rw [← hi] at hc
      by_cases hjb : (j : Int) = bndN k
      · rw [bel_bnd, if_pos hjb] at hc
        simp only [id WWd, IR.o, IR.e, Nat.reduceBEq, Nat.reduceAdd, reduceCtorEq, paramTm, List.map_cons, List.map_nil, forall_const, Option.map_some, Option.map_none, implies_true, hlt, e2, eq_true hjb, HH_6, List.nil_append, List.cons_append, hc, hw, resS_tmp, resS_1]
        exact ⟨_, ⟨n2, fun h => absurd h hne, rfl⟩, by rw [wRes_f hne]⟩
      · rw [bel_bnd, if_neg hjb, Int.add_zero, hd] at hc
        simp only [id WWd, IR.o, IR.e, Nat.reduceBEq, Nat.reduceAdd, reduceCtorEq, paramTm, List.map_cons, List.map_nil, forall_const, Option.map_some, Option.map_none, implies_true, hlt, e2, eq_false hjb, HH_6, List.nil_append, List.cons_append, hc, hw, resS_tmp, resS_1]
        exact ⟨_, ⟨n2, fun h => absurd h hne, rfl⟩, by rw [wRes_f hne]⟩
  · rintro x ⟨hi, hx1⟩
    rw [List.drop_length, errL] at hi
    rw [List.take_length] at hx1
    simp only [id WWd, IR.o, IR.e, Nat.reduceBEq, Nat.reduceAdd, reduceCtorEq, paramTm, List.map_cons, List.map_nil, forall_const, Option.map_some, Option.map_none, implies_true, resS_tmp, resS_1]
    exact ⟨_, ⟨x, fun _ => hx1, rfl⟩, by rw [hi, wRes_t]⟩
end Go.Em
namespace Go.Em
open Go
set_option maxRecDepth 20000

theorem splice_all {α : Type} {zs l : List α} (h : zs.length = l.length) : splice zs 0 l = some l := by
  rw [splice_eq, if_pos (by omega), Nat.zero_add, List.drop_of_length_le (by omega), List.take_zero, List.nil_append, List.append_nil]
theorem len_use : (useT.map AV.im).length = 65 := rfl
theorem is_use : lenIs 65 (useT.map AV.im) = true := rfl
theorem ok_use : allR AV.cellOk (useT.map AV.im) = true := rfl
theorem mk98 (a b c d w : HObj) : oMkfn (.func 98) [] [.ptr 4 0, .ptr 5 0, .ptr 6 0] [true, true, false] [a, b, c, d, .cells [.yld 3], .cells (useT.map .im), w] = some ⟨.fn (.func 98) [] [.ptr 4 0, .im (.ip useT), .ptr 6 0], .heap, .heap [a, b, c, d, .cells [.yld 3], .frz useT, w], false⟩ := rfl

/-- The memory at the loop over the nodes. -/
noncomputable def H0 (va np me nl n : Int) : Heap := [.cells [.im (.sc (.int .i64 0))], .cells [.im (.sc (.int .i64 va)), .im (.sc (.int .i64 np)), .im (.sc (.int .i64 me)), .im (.sc (.int .i64 nl))], .cells [.im (.sc (.int .i64 n))], .loop .ready none rTm [27, 28] IR.rAs IR.rBody]

theorem fin_yld (l : Nat) (a : List AV) : finArgs (.yld l :: a) = none := rfl

theorem nodes_spec {va np me nl n : Int} {k i : Int} {s : ByteArray} {ls ks : List IV} {lk kk : SK} (hv : TrmI (.agg [.sc (.int .i64 k), .sc (.int .i64 i), .sc (.string s), .sl ls lk, .sl ks kk])) : ∃ n' : Int, (errT va np me nl (.agg [.sc (.int .i64 k), .sc (.int .i64 i), .sc (.string s), .sl ls lk, .sl ks kk]) 0 = 0 → n' = wr (n + szOf (.agg [.sc (.int .i64 k), .sc (.int .i64 i), .sc (.string s), .sl ls lk, .sl ks kk]))) ∧
    callFn EC (ev EC) 96 [.yld 3, .im (.ip [.sc (.int .i64 k), .sc (.int .i64 i), .sc (.string s), .sl ls lk, .sl ks kk])] (H0 va np me nl n) = some ⟨.tup [], .heap, .heap (if errT va np me nl (.agg [.sc (.int .i64 k), .sc (.int .i64 i), .sc (.string s), .sl ls lk, .sl ks kk]) 0 = 0 then HH va np me nl 0 n' .ready none else HH va np me nl (errT va np me nl (.agg [.sc (.int .i64 k), .sc (.int .i64 i), .sc (.string s), .sl ls lk, .sl ks kk]) 0) n' .done (some .ret)), false⟩ := by
  obtain ⟨n', h1, h2⟩ := walk_spec (va := va) (np := np) (me := me) (nl := nl) hv 0 n (wr_id (by omega) (by omega))
  refine ⟨n', h1, ?_⟩
  unfold HH wRes at h2
  unfold HH H0
  refine callFn_S (F := IR.f96) rfl rfl rfl rfl rfl rfl rfl rfl ?_
  unfold IR.f96
  simp only [id WWd, IR.o, IR.e, Nat.reduceBEq, Nat.reduceAdd, reduceCtorEq, paramTm, List.map_cons, List.map_nil, forall_const, Option.map_some, Option.map_none, implies_true, use_spec, is_use, ok_use]
  rw [splice_all]
  simp only [id WWd, IR.o, IR.e, Nat.reduceBEq, Nat.reduceAdd, reduceCtorEq, paramTm, List.map_cons, List.map_nil, forall_const, Option.map_some, Option.map_none, implies_true, mk98, List.nil_append, List.cons_append, h2]
  · unfold HH
    rfl
  · rfl

theorem mk96 (a b c d e : IV) : oMkfn (.func 96) [] [.ptr 0 0] [] [.cells [.im a, .im b, .im c, .im d, .im e]] = some ⟨.fn (.func 96) [] [.ptr 0 0], .none, .none, false⟩ := rfl
theorem fz96 (a b c d e : IV) : res1 (.fn (.func 96) [] [.ptr 0 0]) [.cells [.im a, .im b, .im c, .im d, .im e]] = some (.im (.fn (.func 96) [] [.ip [a.strip, b.strip, c.strip, d.strip, e.strip]])) := rfl
theorem iter_spec {k i : Int} {s : ByteArray} {ls ks : List IV} {lk kk : SK} : ∀ h, callFn EC (ev EC) 52 [.im (.agg [.sc (.int .i64 k), .sc (.int .i64 i), .sc (.string s), .sl ls lk, .sl ks kk])] h = some ⟨.im (.fn (.func 96) [] [.ip [.sc (.int .i64 k), .sc (.int .i64 i), .sc (.string s), .sl ls (flatK ls (flatK ls lk)), .sl ks (flatK ks (flatK ks kk))]]), .none, .none, false⟩ := by
  intro h
  refine callFn_P (F := IR.f52) rfl rfl rfl rfl rfl rfl rfl rfl ?_
  simp only [strip_agg, List.map_cons, List.map_nil, flat_sc, flat_slK]
  unfold IR.f52
  simp only [id WWd, IR.o, IR.e, Nat.reduceBEq, Nat.reduceAdd, reduceCtorEq, paramTm, List.map_cons, List.map_nil, forall_const, Option.map_some, Option.map_none, implies_true, mk96, fz96, strip_sl]

theorem wr_szL : ∀ (l : List IV) (a : Int), wr a = a → wr (szL l a) = szL l a
  | [], a, h => by rw [szL]; exact h
  | x :: r, a, _ => by rw [szL]; exact wr_szL r _ (wr_wr _)
theorem wr_sz {v : IV} (hv : TrmI v) : wr (szOf v) = szOf v := by
  obtain ⟨k, i, s, ls, ks, lk, kk⟩ := hv
  rw [szOf]
  exact wr_szL ks 1 (wr_id (by omega) (by omega))

/-- What a term's check finds. -/
noncomputable def chkT (va np me nl : Int) (v : IV) : Int :=
  if errT va np me nl v 0 = 0 then if 4096 < szOf v then 5 else if 200 < dpOf v then 7 else 0 else errT va np me nl v 0

theorem chk_ref {np : Int} (hnp : 0 ≤ np) {v : IV} (hv : TrmI v) : ∀ h, callFn EC (ev EC) 20 [.im v, .im (.sc (.int .i64 0)), .im (.sc (.int .i64 np)), .im (.sc (.int .i64 0)), .im (.sc (.int .i64 0))] h = some ⟨.im (.sc (.int .i64 (chkT 0 np 0 0 v))), .none, .none, false⟩ := by
  have h1 := err_ref (va := 0) (me := 0) (nl := 0) hnp hv 0
  have h2 := sz_spec hv
  have h3 := dp_ref hv
  generalize he : errT 0 np 0 0 v 0 = e at h1
  generalize hz : szOf v = z at h2
  generalize hd : dpOf v = dd at h3
  have hc : chkT 0 np 0 0 v = if e = 0 then if 4096 < z then 5 else if 200 < dd then 7 else 0 else e := by unfold chkT; rw [he, hz, hd]
  rw [hc]
  obtain ⟨k, i, s, ls, ks, lk, kk, hk, hn, hl, hm, hs⟩ := hv
  intro h
  refine callFn_P (F := IR.f20) rfl rfl rfl rfl rfl rfl rfl rfl ?_
  have h1' : ∀ lk' kk', TrmI (.agg [.sc (.int .i64 k), .sc (.int .i64 i), .sc (.string s), .sl ls lk', .sl ks kk']) := fun lk' kk' => .mk k i s ls ks lk' kk' hk hn hl hm hs
  simp only [strip_agg, List.map_cons, List.map_nil, flat_sc, flat_slK]
  generalize flatK ls lk = lk'
  generalize flatK ks kk = kk'
  unfold IR.f20
  have h1 : ∀ h, callFn EC (ev EC) 55 [.im (.agg [.sc (.int .i64 k), .sc (.int .i64 i), .sc (.string s), .sl ls lk', .sl ks kk']), .im (.sc (.int .i64 0)), .im (.sc (.int .i64 0)), .im (.sc (.int .i64 np)), .im (.sc (.int .i64 0)), .im (.sc (.int .i64 0))] h = some ⟨.im (.sc (.int .i64 e)), .none, .none, false⟩ := fun h => by
    rw [err_ref (va := 0) (me := 0) (nl := 0) hnp (h1' lk' kk') 0, ← he, errT, errT]
  have h2 : ∀ h, callFn EC (ev EC) 6 [.im (.agg [.sc (.int .i64 k), .sc (.int .i64 i), .sc (.string s), .sl ls lk', .sl ks kk'])] h = some ⟨.im (.sc (.int .i64 z)), .none, .none, false⟩ := fun h => by
    rw [sz_spec (h1' lk' kk'), ← hz, szOf, szOf]
  have h3 : ∀ h, callFn EC (ev EC) 56 [.im (.agg [.sc (.int .i64 k), .sc (.int .i64 i), .sc (.string s), .sl ls lk', .sl ks kk'])] h = some ⟨.im (.sc (.int .i64 dd)), .none, .none, false⟩ := fun h => by
    rw [dp_ref (h1' lk' kk'), ← hd, dpOf, dpOf]
  simp only [id WWd, IR.o, IR.e, Nat.reduceBEq, Nat.reduceAdd, reduceCtorEq, paramTm, List.map_cons, List.map_nil, forall_const, Option.map_some, Option.map_none, implies_true, h1, h2, h3, gt_iff_lt, ↓reduceIte]
  repeat' (first | apply And.intro | intro _)
  all_goals
    refine int_eq ?_
    clear hc h1 h2 h3
    repeat' split
    all_goals omega

theorem bld4 (a b c d : Value) (z0 z1 z2 z3 : AV) : oBuild [z0, z1, z2, z3] [(0, 1, .im (.sc a)), (1, 1, .im (.sc b)), (2, 1, .im (.sc c)), (3, 1, .im (.sc d))] = some ⟨.im (.agg [.sc a, .sc b, .sc c, .sc d]), .none, .none, false⟩ := rfl
theorem resP_c {b o : Nat} {v : IV} {tm : Tm} {bx : Bx} {h : Heap} (h1 : getB bx b = none) (h2 : getT tm b = .ptr o 0) (h3 : nthR h o = some (.cells [.im v])) : resP [.cell b 1 false] ⟨tm, bx, h⟩ = some (.im v.strip) := by
  unfold resP
  simp only [resVals, resVal, getCells, h1, h2, h3, dropR0, takeN1, Option.map_some, of_f, AV.free, if_true, frzAll, AV.frz, tupOf]
section
variable {va np me nl r n : Int} {st : LS} {pd : Option Jump}
theorem HD_0 : nthR (setR (HH va np me nl r n st pd) 3 .dead) 0 = some (.cells [.im (.sc (.int .i64 r))]) := rfl
theorem HD_2 : nthR (setR (HH va np me nl r n st pd) 3 .dead) 2 = some (.cells [.im (.sc (.int .i64 n))]) := rfl
theorem HDS_0 (x : Int) : setR (setR (HH va np me nl r n st pd) 3 .dead) 0 (.cells [.im (.sc (.int .i64 x))]) = setR (HH va np me nl x n st pd) 3 .dead := rfl
end

theorem chk_spec {np : Int} (hnp : 0 ≤ np) {v : IV} (hv : TrmI v) : ∀ h, callFn EC (ev EC) 18 [.im v, .im (.sc (.int .i64 0)), .im (.sc (.int .i64 np)), .im (.sc (.int .i64 0)), .im (.sc (.int .i64 0))] h = some ⟨.im (.sc (.int .i64 (chkT 0 np 0 0 v))), .none, .none, false⟩ := by
  have hw := wr_sz hv
  obtain ⟨k, i, s, ls, ks, lk, kk, hk, hn, hl, hm, hs⟩ := hv
  have h1' : ∀ lk' kk', TrmI (.agg [.sc (.int .i64 k), .sc (.int .i64 i), .sc (.string s), .sl ls lk', .sl ks kk']) := fun lk' kk' => .mk k i s ls ks lk' kk' hk hn hl hm hs
  intro h
  refine callFn_P (F := IR.f18) rfl rfl rfl rfl rfl rfl rfl rfl ?_
  simp only [strip_agg, List.map_cons, List.map_nil, flat_sc, flat_slK]
  generalize hlk : flatK ls lk = lk'
  generalize hkk : flatK ks kk = kk'
  unfold IR.f18
  have hmx : ¬ np < 0 := by omega
  obtain ⟨n', hn', hN⟩ := nodes_spec (va := 0) (np := np) (me := 0) (nl := 0) (n := 0) (h1' (flatK ls (flatK ls lk')) (flatK ks (flatK ks kk')))
  have h3 : ∀ h, callFn EC (ev EC) 54 [.im (.agg [.sc (.int .i64 k), .sc (.int .i64 i), .sc (.string s), .sl ls lk', .sl ks kk'])] h = some ⟨.im (.sc (.int .i64 (dpOf (.agg [.sc (.int .i64 k), .sc (.int .i64 i), .sc (.string s), .sl ls lk, .sl ks kk])))), .none, .none, false⟩ := fun h => by
    rw [dp_spec (h1' lk' kk'), dpOf, dpOf]
  have hE : errT 0 np 0 0 (.agg [.sc (.int .i64 k), .sc (.int .i64 i), .sc (.string s), .sl ls (flatK ls (flatK ls lk')), .sl ks (flatK ks (flatK ks kk'))]) 0 = errT 0 np 0 0 (.agg [.sc (.int .i64 k), .sc (.int .i64 i), .sc (.string s), .sl ls lk, .sl ks kk]) 0 := by rw [errT, errT]
  have hZ : szOf (.agg [.sc (.int .i64 k), .sc (.int .i64 i), .sc (.string s), .sl ls (flatK ls (flatK ls lk')), .sl ks (flatK ks (flatK ks kk'))]) = szOf (.agg [.sc (.int .i64 k), .sc (.int .i64 i), .sc (.string s), .sl ls lk, .sl ks kk]) := by rw [szOf, szOf]
  rw [hE, hZ, Int.zero_add, hw] at hn'
  rw [hE] at hN
  have hcd : chkT 0 np 0 0 (.agg [.sc (.int .i64 k), .sc (.int .i64 i), .sc (.string s), .sl ls lk, .sl ks kk]) = if errT 0 np 0 0 (.agg [.sc (.int .i64 k), .sc (.int .i64 i), .sc (.string s), .sl ls lk, .sl ks kk]) 0 = 0 then if 4096 < szOf (.agg [.sc (.int .i64 k), .sc (.int .i64 i), .sc (.string s), .sl ls lk, .sl ks kk]) then 5 else if 200 < dpOf (.agg [.sc (.int .i64 k), .sc (.int .i64 i), .sc (.string s), .sl ls lk, .sl ks kk]) then 7 else 0 else errT 0 np 0 0 (.agg [.sc (.int .i64 k), .sc (.int .i64 i), .sc (.string s), .sl ls lk, .sl ks kk]) 0 := rfl
  rw [hcd]
  clear hcd hE hZ
  generalize errT 0 np 0 0 (.agg [.sc (.int .i64 k), .sc (.int .i64 i), .sc (.string s), .sl ls lk, .sl ks kk]) 0 = e at *
  generalize szOf (.agg [.sc (.int .i64 k), .sc (.int .i64 i), .sc (.string s), .sl ls lk, .sl ks kk]) = z at *
  generalize dpOf (.agg [.sc (.int .i64 k), .sc (.int .i64 i), .sc (.string s), .sl ls lk, .sl ks kk]) = dd at *
  unfold H0 rTm IR.rAs IR.rBody at hN
  simp only [IR.o, IR.e] at hN
  by_cases he : e = 0
  · rw [if_pos he] at hN
    rw [if_pos he]
    have hz := hn' he
    simp only [id WWd, IR.o, IR.e, Nat.reduceBEq, Nat.reduceAdd, reduceCtorEq, paramTm, List.map_cons, List.map_nil, forall_const, Option.map_some, Option.map_none, implies_true, iter_spec, gt_iff_lt, hmx, ↓reduceIte, evParts, bld4]
    simp only [id WWd, IR.o, IR.e, Nat.reduceBEq, Nat.reduceAdd, reduceCtorEq, paramTm, List.map_cons, List.map_nil, forall_const, Option.map_some, Option.map_none, implies_true, List.nil_append, List.cons_append, hN, HH_3]
    simp only [id WWd, IR.o, IR.e, Nat.reduceBEq, Nat.reduceAdd, reduceCtorEq, paramTm, List.map_cons, List.map_nil, forall_const, Option.map_some, Option.map_none, implies_true, HD_2, HD_0, HDS_0, h3]
    refine ⟨fun a => ?_, fun a => ⟨fun b => ?_, fun b => ?_⟩⟩
    · rw [if_pos (by omega)]
      exact @resP_c _ _ (.sc (.int .i64 5)) _ _ _ rfl rfl HD_0
    · rw [if_neg (by omega), if_pos b]
      exact @resP_c _ _ (.sc (.int .i64 7)) _ _ _ rfl rfl HD_0
    · rw [if_neg (by omega), if_neg b]
      exact @resP_c _ _ (.sc (.int .i64 0)) _ _ _ rfl rfl HD_0
  · rw [if_neg he] at hN
    rw [if_neg he]
    simp only [id WWd, IR.o, IR.e, Nat.reduceBEq, Nat.reduceAdd, reduceCtorEq, paramTm, List.map_cons, List.map_nil, forall_const, Option.map_some, Option.map_none, implies_true, iter_spec, gt_iff_lt, hmx, ↓reduceIte, evParts, bld4]
    simp only [id WWd, IR.o, IR.e, Nat.reduceBEq, Nat.reduceAdd, reduceCtorEq, paramTm, List.map_cons, List.map_nil, forall_const, Option.map_some, Option.map_none, implies_true, List.nil_append, List.cons_append, hN, HH_3, pendOut]
    exact resP_c rfl rfl HD_0
end Go.Em
namespace Go.Em
open Go
set_option maxRecDepth 20000

section
variable {α : Type} (a b c d e f g h i j k l m n o p : α) (r : List α)
theorem dropR5 : dropR 5 (a :: b :: c :: d :: e :: r) = r := rfl
theorem dropR6 : dropR 6 (a :: b :: c :: d :: e :: f :: r) = r := rfl
theorem dropR11 : dropR 11 (a :: b :: c :: d :: e :: f :: g :: h :: i :: j :: k :: r) = r := rfl
theorem takeN8 : takeN 8 (a :: b :: c :: d :: e :: f :: g :: h :: r) = some [a, b, c, d, e, f, g, h] := rfl
theorem takeN12 : takeN 12 (a :: b :: c :: d :: e :: f :: g :: h :: i :: j :: k :: l :: r) = some [a, b, c, d, e, f, g, h, i, j, k, l] := rfl
theorem takeN16 : takeN 16 (a :: b :: c :: d :: e :: f :: g :: h :: i :: j :: k :: l :: m :: n :: o :: p :: r) = some [a, b, c, d, e, f, g, h, i, j, k, l, m, n, o, p] := rfl
theorem lenIs16 : lenIs 16 [a, b, c, d, e, f, g, h, i, j, k, l, m, n, o, p] = true := rfl
end
theorem mapR8 {α β : Type} (q : α → β) (a b c d e f g h : α) : mapR q [a, b, c, d, e, f, g, h] = [q a, q b, q c, q d, q e, q f, q g, q h] := rfl
theorem mapR12 {α β : Type} (q : α → β) (a b c d e f g h i j k l : α) : mapR q [a, b, c, d, e, f, g, h, i, j, k, l] = [q a, q b, q c, q d, q e, q f, q g, q h, q i, q j, q k, q l] := rfl
theorem mkAgg12 (a b c d e f g h i j k l : IV) : mkAgg [.im a, .im b, .im c, .im d, .im e, .im f, .im g, .im h, .im i, .im j, .im k, .im l] = .im (.agg [a, b, c, d, e, f, g, h, i, j, k, l]) := mkAgg_im [a, b, c, d, e, f, g, h, i, j, k, l]
theorem mkAgg16 (a b c d e f g h i j k l m n o p : IV) : mkAgg [.im a, .im b, .im c, .im d, .im e, .im f, .im g, .im h, .im i, .im j, .im k, .im l, .im m, .im n, .im o, .im p] = .im (.agg [a, b, c, d, e, f, g, h, i, j, k, l, m, n, o, p]) := mkAgg_im [a, b, c, d, e, f, g, h, i, j, k, l, m, n, o, p]
def WYd := And.intro (And.intro (And.intro @dropR5 @dropR6) (And.intro @dropR11 @takeN8)) (And.intro (And.intro (And.intro @takeN12 @takeN16) (And.intro @mapR8 @mapR12)) (And.intro (And.intro @lenIs16 @mkAgg12) (And.intro @mkAgg16 @bool_eql)))

theorem sm_meta {k i k2 i2 : Int} {s s2 : ByteArray} {ls ks ls2 ks2 : List IV} {lk kk lk2 kk2 : SK} {b b2 : Bool} (hv : TrmI (.agg [.sc (.int .i64 k), .sc (.int .i64 i), .sc (.string s), .sl ls lk, .sl ks kk])) (hv2 : TrmI (.agg [.sc (.int .i64 k2), .sc (.int .i64 i2), .sc (.string s2), .sl ls2 lk2, .sl ks2 kk2])) :
    ∀ h, callFn EC (ev EC) 57 [.im (.agg [.sc (.int .i64 k), .sc (.int .i64 i), .sc (.string s), .sl ls lk, .sl ks kk, .sc (.bool b), .sc (.int .i64 k2), .sc (.int .i64 i2), .sc (.string s2), .sl ls2 lk2, .sl ks2 kk2, .sc (.bool b2)]), .im (.agg [.sc (.int .i64 k), .sc (.int .i64 i), .sc (.string s), .sl ls lk, .sl ks kk, .sc (.bool b), .sc (.int .i64 k2), .sc (.int .i64 i2), .sc (.string s2), .sl ls2 lk2, .sl ks2 kk2, .sc (.bool b2)])] h = some ⟨.im (.sc (.bool true)), .none, .none, false⟩ := by
  intro h
  refine callFn_P (F := IR.f57) rfl rfl rfl rfl rfl rfl rfl rfl ?_
  have h1 : ∀ lk kk, TrmI (.agg [.sc (.int .i64 k), .sc (.int .i64 i), .sc (.string s), .sl ls lk, .sl ks kk]) := fun lk' kk' => by cases hv; constructor <;> assumption
  have h2 : ∀ lk kk, TrmI (.agg [.sc (.int .i64 k2), .sc (.int .i64 i2), .sc (.string s2), .sl ls2 lk, .sl ks2 kk]) := fun lk' kk' => by cases hv2; constructor <;> assumption
  simp only [strip_agg, List.map_cons, List.map_nil, flat_sc, flat_slK]
  unfold IR.f57
  simp only [id WWd, IR.o, IR.e, Nat.reduceBEq, Nat.reduceAdd, reduceCtorEq, paramTm, List.map_cons, List.map_nil, forall_const, Option.map_some, Option.map_none, implies_true, id WYd, sm_trm (h1 _ _), sm_trm (h2 _ _)]

theorem sm_ctx : ∀ h, callFn EC (ev EC) 60 [.im (.sl [] .nil), .im (.sl [] .nil)] h = some ⟨.im (.sc (.bool true)), .none, .none, false⟩ := by
  intro h
  refine callFn_P (F := IR.f60) rfl rfl rfl rfl rfl rfl rfl rfl ?_
  simp only [strip_sl, flatK]
  unfold IR.f60
  simp only [id WWd, IR.o, IR.e, Nat.reduceBEq, Nat.reduceAdd, reduceCtorEq, paramTm, List.map_cons, List.map_nil, forall_const, Option.map_some, Option.map_none, implies_true]
  refine W_for 0 (fun j => ⟨[(0, .im (.sl [] .nil)), (1, .im (.sl [] .nil)), (4, .im (.sc (.bool false))), (5, .im (.sc (.int .i64 (j : Int))))], [], []⟩) ?_ ?_ ?_
  · simp only [id WWd, IR.o, IR.e, Nat.reduceBEq, Nat.reduceAdd, reduceCtorEq, paramTm, List.map_cons, List.map_nil, forall_const, Option.map_some, Option.map_none, implies_true]
    rfl
  · intro j hj
    omega
  · simp only [id WWd, IR.o, IR.e, Nat.reduceBEq, Nat.reduceAdd, reduceCtorEq, paramTm, List.map_cons, List.map_nil, forall_const, Option.map_some, Option.map_none, implies_true, List.length_nil]

/-- The goal that a term is. -/
def goalOf (k i : Int) (s : ByteArray) (ls ks : List IV) (lk kk : SK) : IV := .agg [.sc (.int .i64 0), .sl [] .nil, .sl [] .nil, .sc (.int .i64 k), .sc (.int .i64 i), .sc (.string s), .sl ls lk, .sl ks kk]

theorem sm_goals {k i : Int} {s : ByteArray} {ls ks : List IV} {lk kk q : SK} (hv : TrmI (.agg [.sc (.int .i64 k), .sc (.int .i64 i), .sc (.string s), .sl ls lk, .sl ks kk])) :
    ∀ h, callFn EC (ev EC) 23 [.im (.sl [goalOf k i s ls ks lk kk] q), .im (.sl [goalOf k i s ls ks lk kk] q)] h = some ⟨.im (.sc (.bool true)), .none, .none, false⟩ := by
  intro h
  refine callFn_P (F := IR.f23) rfl rfl rfl rfl rfl rfl rfl rfl ?_
  simp only [strip_sl]
  generalize flatK _ q = q'
  unfold IR.f23
  simp only [id WWd, IR.o, IR.e, Nat.reduceBEq, Nat.reduceAdd, reduceCtorEq, paramTm, List.map_cons, List.map_nil, forall_const, Option.map_some, Option.map_none, implies_true]
  refine W_for 1 (fun j => ⟨[(0, .im (.sl [goalOf k i s ls ks lk kk] q')), (1, .im (.sl [goalOf k i s ls ks lk kk] q')), (4, .im (.sc (.bool false))), (5, .im (.sc (.int .i64 (j : Int))))], [], []⟩) ?_ ?_ ?_
  · simp only [id WWd, IR.o, IR.e, Nat.reduceBEq, Nat.reduceAdd, reduceCtorEq, paramTm, List.map_cons, List.map_nil, forall_const, Option.map_some, Option.map_none, implies_true]
    rfl
  · intro j hj
    obtain rfl : j = 0 := by omega
    have hlt : ((0 : Nat) : Int) < (([goalOf k i s ls ks lk kk] : List IV).length : Int) := by simp
    have hw : wr (((0 : Nat) : Int) + 1) = ((0 + 1 : Nat) : Int) := wr_id (by omega) (by omega)
    have e2 := idx_sl 8 [goalOf k i s ls ks lk kk] q' .i64 0 _ rfl rfl
    simp only [IV.cells] at e2
    unfold goalOf at e2 hlt ⊢
    simp only [id WWd, IR.o, IR.e, Nat.reduceBEq, Nat.reduceAdd, reduceCtorEq, paramTm, List.map_cons, List.map_nil, forall_const, Option.map_some, Option.map_none, implies_true, hlt]
    refine W_draw rfl ?_
    have hno : ∀ q q2 h, callFn EC (ev EC) 21 [.im (.sl [] q), .im (.sl [] q2)] h = some ⟨.im (.sc (.bool true)), .none, .none, false⟩ := fun q q2 h => sm_names (fun v hv => by cases hv) (by simp) h
    simp only [id WWd, IR.o, IR.e, Nat.reduceBEq, Nat.reduceAdd, reduceCtorEq, paramTm, List.map_cons, List.map_nil, forall_const, Option.map_some, Option.map_none, implies_true, id WYd, e2, sm_trm hv, sm_ctx, hno, hw]
  · have hno : ¬ ((1 : Nat) : Int) < (([goalOf k i s ls ks lk kk] : List IV).length : Int) := by simp
    simp only [id WWd, IR.o, IR.e, Nat.reduceBEq, Nat.reduceAdd, reduceCtorEq, paramTm, List.map_cons, List.map_nil, forall_const, Option.map_some, Option.map_none, implies_true, hno]
end Go.Em
namespace Go.Em
open Go
set_option maxRecDepth 20000

/-- The metavariable that a term is the type of. -/
def metaOf (k i : Int) (s : ByteArray) (ls ks : List IV) (lk kk : SK) : IV := .agg [.sc (.int .i64 k), .sc (.int .i64 i), .sc (.string s), .sl ls lk, .sl ks kk, .sc (.bool false), .sc (.int .i64 0), .sc (.int .i64 0), .sc (.string ⟨#[]⟩), .sl [] .nil, .sl [] .nil, .sc (.bool false)]

theorem trm0 : TrmI (.agg [.sc (.int .i64 0), .sc (.int .i64 0), .sc (.string ⟨#[]⟩), .sl [] .nil, .sl [] .nil]) := .mk 0 0 ⟨#[]⟩ [] [] .nil .nil (fun _ h => by cases h) (by simp) (fun _ h => by cases h) (by simp) (by show (0 : Nat) ≤ _; omega)
theorem trm12 : TrmI (.agg [.sc (.int .i64 12), .sc (.int .i64 0), .sc (.string ⟨#[]⟩), .sl [] .nil, .sl [] .nil]) := .mk 12 0 ⟨#[]⟩ [] [] .nil .nil (fun _ h => by cases h) (by simp) (fun _ h => by cases h) (by simp) (by show (0 : Nat) ≤ _; omega)

theorem sm_store {k i : Int} {s : ByteArray} {ls ks : List IV} {lk kk q : SK} (hv : TrmI (.agg [.sc (.int .i64 k), .sc (.int .i64 i), .sc (.string s), .sl ls lk, .sl ks kk])) :
    ∀ h, callFn EC (ev EC) 22 [.im (.agg [.sl [metaOf k i s ls ks lk kk] q, .sl [] .nil, .sl [] .nil, .sc (.int .i64 0)]), .im (.agg [.sl [metaOf k i s ls ks lk kk] q, .sl [] .nil, .sl [] .nil, .sc (.int .i64 0)])] h = some ⟨.im (.sc (.bool true)), .none, .none, false⟩ := by
  intro h
  refine callFn_P (F := IR.f22) rfl rfl rfl rfl rfl rfl rfl rfl ?_
  simp only [strip_agg, List.map_cons, List.map_nil, flat_sc, flat_slK]
  rw [show flatK [] SK.nil = .nil from rfl]
  generalize flatK _ q = q'
  unfold IR.f22
  simp only [id WWd, IR.o, IR.e, Nat.reduceBEq, Nat.reduceAdd, reduceCtorEq, paramTm, List.map_cons, List.map_nil, forall_const, Option.map_some, Option.map_none, implies_true, List.length_nil, List.length_cons]
  refine W_for 1 (fun j => ⟨[(4, .im (.sc (.bool false))), (5, .im (.sc (.int .i64 (j : Int))))], [(2, [.im (.sl [metaOf k i s ls ks lk kk] q'), .im (.sl [] .nil), .im (.sl [] .nil), .im (.sc (.int .i64 0))]), (3, [.im (.sl [metaOf k i s ls ks lk kk] q'), .im (.sl [] .nil), .im (.sl [] .nil), .im (.sc (.int .i64 0))])], []⟩) ?_ ?_ ?_
  · simp only [id WWd, IR.o, IR.e, Nat.reduceBEq, Nat.reduceAdd, reduceCtorEq, paramTm, List.map_cons, List.map_nil, forall_const, Option.map_some, Option.map_none, implies_true]
    rfl
  · intro j hj
    obtain rfl : j = 0 := by omega
    have hlt : ((0 : Nat) : Int) < (([metaOf k i s ls ks lk kk] : List IV).length : Int) := by simp
    have hw : wr (((0 : Nat) : Int) + 1) = ((0 + 1 : Nat) : Int) := wr_id (by omega) (by omega)
    have e2 := idx_sl 12 [metaOf k i s ls ks lk kk] q' .i64 0 _ rfl rfl
    simp only [IV.cells] at e2
    unfold metaOf at e2 hlt ⊢
    simp only [id WWd, IR.o, IR.e, Nat.reduceBEq, Nat.reduceAdd, reduceCtorEq, paramTm, List.map_cons, List.map_nil, forall_const, Option.map_some, Option.map_none, implies_true, hlt]
    refine W_draw rfl ?_
    simp only [id WWd, IR.o, IR.e, Nat.reduceBEq, Nat.reduceAdd, reduceCtorEq, paramTm, List.map_cons, List.map_nil, forall_const, Option.map_some, Option.map_none, implies_true, id WYd, e2, sm_meta hv trm0, hw]
  · have hno : ¬ ((1 : Nat) : Int) < (([metaOf k i s ls ks lk kk] : List IV).length : Int) := by simp
    simp only [id WWd, IR.o, IR.e, Nat.reduceBEq, Nat.reduceAdd, reduceCtorEq, paramTm, List.map_cons, List.map_nil, forall_const, Option.map_some, Option.map_none, implies_true, hno]
    refine W_for 0 (fun j => ⟨[(4, .im (.sc (.bool false))), (6, .im (.sc (.int .i64 (j : Int))))], [(2, [.im (.sl [metaOf k i s ls ks lk kk] q'), .im (.sl [] .nil), .im (.sl [] .nil), .im (.sc (.int .i64 0))]), (3, [.im (.sl [metaOf k i s ls ks lk kk] q'), .im (.sl [] .nil), .im (.sl [] .nil), .im (.sc (.int .i64 0))])], []⟩) ?_ ?_ ?_
    · simp only [id WWd, IR.o, IR.e, Nat.reduceBEq, Nat.reduceAdd, reduceCtorEq, paramTm, List.map_cons, List.map_nil, forall_const, Option.map_some, Option.map_none, implies_true]
      rfl
    · intro j hj
      omega
    · simp only [id WWd, IR.o, IR.e, Nat.reduceBEq, Nat.reduceAdd, reduceCtorEq, paramTm, List.map_cons, List.map_nil, forall_const, Option.map_some, Option.map_none, implies_true, List.length_nil]
      refine W_for 0 (fun j => ⟨[(4, .im (.sc (.bool false))), (7, .im (.sc (.int .i64 (j : Int))))], [(2, [.im (.sl [metaOf k i s ls ks lk kk] q'), .im (.sl [] .nil), .im (.sl [] .nil), .im (.sc (.int .i64 0))]), (3, [.im (.sl [metaOf k i s ls ks lk kk] q'), .im (.sl [] .nil), .im (.sl [] .nil), .im (.sc (.int .i64 0))])], []⟩) ?_ ?_ ?_
      · simp only [id WWd, IR.o, IR.e, Nat.reduceBEq, Nat.reduceAdd, reduceCtorEq, paramTm, List.map_cons, List.map_nil, forall_const, Option.map_some, Option.map_none, implies_true]
        rfl
      · intro j hj
        omega
      · simp only [id WWd, IR.o, IR.e, Nat.reduceBEq, Nat.reduceAdd, reduceCtorEq, paramTm, List.map_cons, List.map_nil, forall_const, Option.map_some, Option.map_none, implies_true, List.length_nil]

/-- The proof state that a start comes to. -/
def prfOf (ns : List IV) (kn : SK) (k i : Int) (s : ByteArray) (ls ks : List IV) (lk kk lk2 kk2 : SK) (q : SK) : IV :=
  .agg [.sl ns kn, .sl [metaOf k i s ls ks lk kk] q, .sl [] .nil, .sl [] .nil, .sc (.int .i64 0), .sl [goalOf k i s ls ks lk kk] q, .sc (.int .i64 k), .sc (.int .i64 i), .sc (.string s), .sl ls lk2, .sl ks kk2, .sc (.int .i64 12), .sc (.int .i64 0), .sc (.string ⟨#[]⟩), .sl [] .nil, .sl [] .nil]

theorem sm_prf {ns : List IV} {kn km q : SK} {k i : Int} {s : ByteArray} {ls ks : List IV} {lk kk lk2 kk2 : SK} (hns : ∀ v ∈ ns, ∃ s, v = .sc (.string s)) (hnn : ns.length ≤ maxLen) (hv : TrmI (.agg [.sc (.int .i64 k), .sc (.int .i64 i), .sc (.string s), .sl ls lk, .sl ks kk])) :
    ∀ h, callFn EC (ev EC) 10 [.im (prfOf ns kn k i s ls ks lk kk lk2 kk2 q), .im (prfOf ns km k i s ls ks lk kk lk2 kk2 q)] h = some ⟨.im (.sc (.bool true)), .none, .none, false⟩ := by
  intro h
  refine callFn_P (F := IR.f10) rfl rfl rfl rfl rfl rfl rfl rfl ?_
  have h1 : ∀ lk kk, TrmI (.agg [.sc (.int .i64 k), .sc (.int .i64 i), .sc (.string s), .sl ls lk, .sl ks kk]) := fun lk' kk' => by cases hv; constructor <;> assumption
  unfold prfOf
  simp only [strip_agg, List.map_cons, List.map_nil, flat_sc, flat_slK]
  rw [show flatK [] SK.nil = .nil from rfl]
  unfold IR.f10
  simp only [id WWd, IR.o, IR.e, Nat.reduceBEq, Nat.reduceAdd, reduceCtorEq, paramTm, List.map_cons, List.map_nil, forall_const, Option.map_some, Option.map_none, implies_true, id WYd, sm_names hns hnn, sm_store hv, sm_goals hv, sm_trm (h1 _ _), sm_trm trm12]

/-- The proof state of an error. -/
def prf0 : IV := .agg [.sl [] .nil, .sl [] .nil, .sl [] .nil, .sl [] .nil, .sc (.int .i64 0), .sl [] .nil, .sc (.int .i64 0), .sc (.int .i64 0), .sc (.string ⟨#[]⟩), .sl [] .nil, .sl [] .nil, .sc (.int .i64 0), .sc (.int .i64 0), .sc (.string ⟨#[]⟩), .sl [] .nil, .sl [] .nil]
theorem sm0_ex : callFn EC (exec EC 1000) 10 [.im prf0, .im prf0] [] = some { v := .im (.sc (.bool true)) } := by kernel_rfl
theorem sm0_h (n : Nat) (h : Heap) : callFn EC (exec EC n) 10 [.im prf0, .im prf0] h = callFn EC (exec EC n) 10 [.im prf0, .im prf0] [] := rfl
theorem sm_prf0 (h : Heap) : callFn EC (ev EC) 10 [.im prf0, .im prf0] h = some ⟨.im (.sc (.bool true)), .none, .none, false⟩ := by
  have := callFn_exec (n := 1000) (h := h) (r := { v := .im (.sc (.bool true)) }) (by rw [sm0_h]; exact sm0_ex)
  exact this
end Go.Em
namespace Go.Em
open Go
set_option maxRecDepth 20000

theorem splice16 {α : Type} (a0 a1 a2 a3 a4 a5 a6 a7 a8 a9 aa ab ac ad ae af b0 b1 b2 b3 b4 b5 b6 b7 b8 b9 ba bb bc bd be bf : α) : splice [a0, a1, a2, a3, a4, a5, a6, a7, a8, a9, aa, ab, ac, ad, ae, af] 0 [b0, b1, b2, b3, b4, b5, b6, b7, b8, b9, ba, bb, bc, bd, be, bf] = some [b0, b1, b2, b3, b4, b5, b6, b7, b8, b9, ba, bb, bc, bd, be, bf] := rfl
section
variable (k i : Int) (s : ByteArray) (ls ks : List IV) (lk kk : SK)
theorem bldM : oBuild [.im (.sc (.int .i64 0)), .im (.sc (.int .i64 0)), .im (.sc (.string ⟨#[]⟩)), .im (.sl [] .nil), .im (.sl [] .nil), .im (.sc (.bool false)), .im (.sc (.int .i64 0)), .im (.sc (.int .i64 0)), .im (.sc (.string ⟨#[]⟩)), .im (.sl [] .nil), .im (.sl [] .nil), .im (.sc (.bool false))] [(0, 5, .im (.agg [.sc (.int .i64 k), .sc (.int .i64 i), .sc (.string s), .sl ls lk, .sl ks kk]))] = some ⟨.im (metaOf k i s ls ks lk kk), .none, .none, false⟩ := rfl
theorem mkSM (h : Heap) : oMkS 12 1 [.im (.sc (.int .i64 0)), .im (.sc (.int .i64 0)), .im (.sc (.string ⟨#[]⟩)), .im (.sl [] .nil), .im (.sl [] .nil), .im (.sc (.bool false)), .im (.sc (.int .i64 0)), .im (.sc (.int .i64 0)), .im (.sc (.string ⟨#[]⟩)), .im (.sl [] .nil), .im (.sl [] .nil), .im (.sc (.bool false))] [(0, 12, .im (metaOf k i s ls ks lk kk))] h = some ⟨.im (.sl [metaOf k i s ls ks (flatK ls lk) (flatK ks kk)] .full), .none, .none, false⟩ := by
  have e : ∀ x y, IV.flat (.sl ls lk) = x → IV.flat (.sl ks kk) = y → oMkS 12 1 [.im (.sc (.int .i64 0)), .im (.sc (.int .i64 0)), .im (.sc (.string ⟨#[]⟩)), .im (.sl [] .nil), .im (.sl [] .nil), .im (.sc (.bool false)), .im (.sc (.int .i64 0)), .im (.sc (.int .i64 0)), .im (.sc (.string ⟨#[]⟩)), .im (.sl [] .nil), .im (.sl [] .nil), .im (.sc (.bool false))] [(0, 12, .im (metaOf k i s ls ks lk kk))] h = some ⟨.im (.sl [.agg [.sc (.int .i64 k), .sc (.int .i64 i), .sc (.string s), x, y, .sc (.bool false), .sc (.int .i64 0), .sc (.int .i64 0), .sc (.string ⟨#[]⟩), .sl [] .nil, .sl [] .nil, .sc (.bool false)]] .full), .none, .none, false⟩ := fun x y hx hy => by
    subst hx; subst hy; rfl
  exact e _ _ (flat_slK ls lk) (flat_slK ks kk)
theorem bldS (m : List IV) (q : SK) : oBuild [.im (.sl [] .nil), .im (.sl [] .nil), .im (.sl [] .nil), .im (.sc (.int .i64 0))] [(0, 1, .im (.sl m q))] = some ⟨.im (.agg [.sl m q, .sl [] .nil, .sl [] .nil, .sc (.int .i64 0)]), .none, .none, false⟩ := rfl
theorem bldG : oBuild [.im (.sc (.int .i64 0)), .im (.sl [] .nil), .im (.sl [] .nil), .im (.sc (.int .i64 0)), .im (.sc (.int .i64 0)), .im (.sc (.string ⟨#[]⟩)), .im (.sl [] .nil), .im (.sl [] .nil)] [(3, 5, .im (.agg [.sc (.int .i64 k), .sc (.int .i64 i), .sc (.string s), .sl ls lk, .sl ks kk]))] = some ⟨.im (goalOf k i s ls ks lk kk), .none, .none, false⟩ := rfl
theorem mkSG (h : Heap) : oMkS 8 1 [.im (.sc (.int .i64 0)), .im (.sl [] .nil), .im (.sl [] .nil), .im (.sc (.int .i64 0)), .im (.sc (.int .i64 0)), .im (.sc (.string ⟨#[]⟩)), .im (.sl [] .nil), .im (.sl [] .nil)] [(0, 8, .im (goalOf k i s ls ks lk kk))] h = some ⟨.im (.sl [goalOf k i s ls ks (flatK ls lk) (flatK ks kk)] .full), .none, .none, false⟩ := by
  have e : ∀ x y, IV.flat (.sl ls lk) = x → IV.flat (.sl ks kk) = y → oMkS 8 1 [.im (.sc (.int .i64 0)), .im (.sl [] .nil), .im (.sl [] .nil), .im (.sc (.int .i64 0)), .im (.sc (.int .i64 0)), .im (.sc (.string ⟨#[]⟩)), .im (.sl [] .nil), .im (.sl [] .nil)] [(0, 8, .im (goalOf k i s ls ks lk kk))] h = some ⟨.im (.sl [.agg [.sc (.int .i64 0), .sl [] .nil, .sl [] .nil, .sc (.int .i64 k), .sc (.int .i64 i), .sc (.string s), x, y]] .full), .none, .none, false⟩ := fun x y hx hy => by
    subst hx; subst hy; rfl
  exact e _ _ (flat_slK ls lk) (flat_slK ks kk)
theorem bldT : oBuild [.im (.sc (.int .i64 0)), .im (.sc (.int .i64 0)), .im (.sc (.string ⟨#[]⟩)), .im (.sl [] .nil), .im (.sl [] .nil)] [(0, 1, .im (.sc (.int .i64 12)))] = some ⟨.im (.agg [.sc (.int .i64 12), .sc (.int .i64 0), .sc (.string ⟨#[]⟩), .sl [] .nil, .sl [] .nil]), .none, .none, false⟩ := rfl
theorem bldP (ns m g : List IV) (kn km kg : SK) : oBuild [.im (.sl [] .nil), .im (.sl [] .nil), .im (.sl [] .nil), .im (.sl [] .nil), .im (.sc (.int .i64 0)), .im (.sl [] .nil), .im (.sc (.int .i64 0)), .im (.sc (.int .i64 0)), .im (.sc (.string ⟨#[]⟩)), .im (.sl [] .nil), .im (.sl [] .nil), .im (.sc (.int .i64 0)), .im (.sc (.int .i64 0)), .im (.sc (.string ⟨#[]⟩)), .im (.sl [] .nil), .im (.sl [] .nil)] [(0, 1, .im (.sl ns kn)), (1, 4, .im (.agg [.sl m km, .sl [] .nil, .sl [] .nil, .sc (.int .i64 0)])), (5, 1, .im (.sl g kg)), (6, 5, .im (.agg [.sc (.int .i64 k), .sc (.int .i64 i), .sc (.string s), .sl ls lk, .sl ks kk])), (11, 5, .im (.agg [.sc (.int .i64 12), .sc (.int .i64 0), .sc (.string ⟨#[]⟩), .sl [] .nil, .sl [] .nil]))] =
    some ⟨.im (.agg [.sl ns kn, .sl m km, .sl [] .nil, .sl [] .nil, .sc (.int .i64 0), .sl g kg, .sc (.int .i64 k), .sc (.int .i64 i), .sc (.string s), .sl ls lk, .sl ks kk, .sc (.int .i64 12), .sc (.int .i64 0), .sc (.string ⟨#[]⟩), .sl [] .nil, .sl [] .nil]), .none, .none, false⟩ := rfl
theorem bldQ (ns m g : List IV) (n : Nat) (km kg : SK) : oBuild [.im (.sl [] .nil), .im (.sl [] .nil), .im (.sl [] .nil), .im (.sl [] .nil), .im (.sc (.int .i64 0)), .im (.sl [] .nil), .im (.sc (.int .i64 0)), .im (.sc (.int .i64 0)), .im (.sc (.string ⟨#[]⟩)), .im (.sl [] .nil), .im (.sl [] .nil), .im (.sc (.int .i64 0)), .im (.sc (.int .i64 0)), .im (.sc (.string ⟨#[]⟩)), .im (.sl [] .nil), .im (.sl [] .nil)] [(0, 1, .own ns n), (1, 4, .im (.agg [.sl m km, .sl [] .nil, .sl [] .nil, .sc (.int .i64 0)])), (5, 1, .im (.sl g kg)), (6, 5, .im (.agg [.sc (.int .i64 k), .sc (.int .i64 i), .sc (.string s), .sl ls lk, .sl ks kk])), (11, 5, .im (.agg [.sc (.int .i64 12), .sc (.int .i64 0), .sc (.string ⟨#[]⟩), .sl [] .nil, .sl [] .nil]))] =
    some ⟨.agg [.own ns n, .im (.sl m km), .im (.sl [] .nil), .im (.sl [] .nil), .im (.sc (.int .i64 0)), .im (.sl g kg), .im (.sc (.int .i64 k)), .im (.sc (.int .i64 i)), .im (.sc (.string s)), .im (.sl ls lk), .im (.sl ks kk), .im (.sc (.int .i64 12)), .im (.sc (.int .i64 0)), .im (.sc (.string ⟨#[]⟩)), .im (.sl [] .nil), .im (.sl [] .nil)], .none, .none, false⟩ := rfl
end
theorem bld0 : oBuild [.im (.sl [] .nil), .im (.sl [] .nil), .im (.sl [] .nil), .im (.sl [] .nil), .im (.sc (.int .i64 0)), .im (.sl [] .nil), .im (.sc (.int .i64 0)), .im (.sc (.int .i64 0)), .im (.sc (.string ⟨#[]⟩)), .im (.sl [] .nil), .im (.sl [] .nil), .im (.sc (.int .i64 0)), .im (.sc (.int .i64 0)), .im (.sc (.string ⟨#[]⟩)), .im (.sl [] .nil), .im (.sl [] .nil)] [] = some ⟨.im prf0, .none, .none, false⟩ := rfl
theorem cells0 : AV.cells (.im prf0) = [.im (.sl [] .nil), .im (.sl [] .nil), .im (.sl [] .nil), .im (.sl [] .nil), .im (.sc (.int .i64 0)), .im (.sl [] .nil), .im (.sc (.int .i64 0)), .im (.sc (.int .i64 0)), .im (.sc (.string ⟨#[]⟩)), .im (.sl [] .nil), .im (.sl [] .nil), .im (.sc (.int .i64 0)), .im (.sc (.int .i64 0)), .im (.sc (.string ⟨#[]⟩)), .im (.sl [] .nil), .im (.sl [] .nil)] := rfl
theorem cells_ag (l : List AV) : AV.cells (.agg l) = l := rfl
theorem cellOk_own (l : List IV) (n : Nat) : AV.cellOk (.own l n) = true := rfl

theorem app_names {ns : List IV} {k q : SK} {h : Heap} (hq : q = .full ∨ q = .nil) (hne : ns ≠ []) (hns : ∀ v ∈ ns, ∃ s, v = .sc (.string s)) (hl : ns.length ≤ 8) : appendOf 1 false h (.im (.sl [] q)) (.im (.sl ns k)) = some ⟨.own ns (lenR h), .none, .alloc .tok, false⟩ := by
  have h1 : allR (fun e => lenIs 1 e.cells) ns = true := by
    rw [allR_eq, List.all_eq_true]
    intro v hv
    obtain ⟨s, rfl⟩ := hns v hv
    rfl
  have h2 : mapR IV.strip ns = ns := by
    rw [mapR_eq]
    conv => rhs; rw [← List.map_id ns]
    exact List.map_congr_left fun v hv => by obtain ⟨s, rfl⟩ := hns v hv; rfl
  have h3 : appIm 1 false h [] ns = some ⟨.own ns (lenR h), .none, .alloc .tok, false⟩ := by
    unfold appIm
    have : Nat.ble (lenR ([] : List IV) + lenR ns) mostLen = true := by
      rw [Nat.ble_eq, lenR_eq, lenR_eq]; simp only [List.length_nil, mostLen]; omega
    rw [this, h2]
    rfl
  unfold appendOf
  cases ns with
  | nil => exact absurd rfl hne
  | cons x r =>
    simp only [sliceElems, app1, h1]
    rcases hq with rfl | rfl <;> exact h3

theorem app_none {q k : SK} {h : Heap} : appendOf 1 false h (.im (.sl [] q)) (.im (.sl [] k)) = some ⟨.im (.sl [] q), .none, .none, false⟩ := rfl
theorem res1_own (ns : List IV) (n : Nat) (h : Heap) : res1 (.own ns n) h = some (.im (.sl ns .ro)) := rfl
theorem mkS0 (h : Heap) : oMkS 1 0 [.im (.sc (.string ⟨#[]⟩))] [] h = some ⟨.im (.sl [] .full), .none, .none, false⟩ := rfl
theorem nil_n : oIsnil .sl false (.im (.sl [] .nil)) = some ⟨.im (.sc (.bool true)), .none, .none, false⟩ := rfl
theorem nil_l : oIsnil .sl false (.im (.sl [] .live)) = some ⟨.im (.sc (.bool false)), .none, .none, false⟩ := rfl
theorem nil_c (x : IV) (r : List IV) (k : SK) : oIsnil .sl false (.im (.sl (x :: r) k)) = some ⟨.im (.sc (.bool false)), .none, .none, false⟩ := rfl
theorem evP_nil (tm : Tm) (bx : Bx) : evParts tm bx [] = [] := rfl
theorem evP_cons (tm : Tm) (bx : Bx) (a b : Nat) (x : Opd) (l : List (Nat × Nat × Opd)) : evParts tm bx ((a, b, x) :: l) = (a, b, x.ev tm bx) :: evParts tm bx l := rfl
theorem evS_nil (tm : Tm) (bx : Bx) (z : Nat) : evPartsS tm bx z [] = [] := rfl
theorem evS_cons (tm : Tm) (bx : Bx) (z a : Nat) (x : Opd) (l : List (Nat × Opd)) : evPartsS tm bx z ((a, x) :: l) = (a * z, z, x.ev tm bx) :: evPartsS tm bx z l := rfl
def WZd := And.intro (And.intro (And.intro (And.intro @evP_nil @evP_cons) (And.intro @evS_nil @evS_cons)) (And.intro (And.intro @nil_n @nil_l) (And.intro @nil_c @mkS0))) (And.intro (And.intro (And.intro @res1_own @app_none) (And.intro @cellOk_own @cells_ag)) (And.intro (And.intro @cells0 @bld0) (And.intro (And.intro @bldM @mkSM) (And.intro (And.intro @bldS @bldG) (And.intro (And.intro @mkSG @bldT) (And.intro @bldP (And.intro @bldQ (And.intro @splice16 @Nat.zero_mul))))))))

theorem clone_spec {ns : List IV} {k : SK} (hns : ∀ v ∈ ns, ∃ s, v = .sc (.string s)) (hl : ns.length ≤ 8) (hk : ns = [] → k = .nil ∨ k = .live) : ∃ k', ∀ h, callFn EC (ev EC) 19 [.im (.sl ns k)] h = some ⟨.im (.sl ns k'), .none, .none, false⟩ := by
  cases ns with
  | nil =>
    rcases hk rfl with rfl | rfl
    · refine ⟨.nil, fun h => callFn_P (F := IR.f19) rfl rfl rfl rfl rfl rfl rfl rfl ?_⟩
      simp only [strip_sl, flatK]
      unfold IR.f19
      simp only [id WWd, IR.o, IR.e, Nat.reduceBEq, Nat.reduceAdd, reduceCtorEq, paramTm, List.map_cons, List.map_nil, forall_const, Option.map_some, Option.map_none, implies_true, id WZd, strip_sl, flatK]
    · refine ⟨.ro, fun h => callFn_P (F := IR.f19) rfl rfl rfl rfl rfl rfl rfl rfl ?_⟩
      simp only [strip_sl, flatK]
      unfold IR.f19
      simp only [id WWd, IR.o, IR.e, Nat.reduceBEq, Nat.reduceAdd, reduceCtorEq, paramTm, List.map_cons, List.map_nil, forall_const, Option.map_some, Option.map_none, implies_true, id WZd, strip_sl, flatK]
  | cons x r =>
    refine ⟨.ro, fun h => callFn_P (F := IR.f19) rfl rfl rfl rfl rfl rfl rfl rfl ?_⟩
    simp only [strip_sl]
    generalize flatK _ k = k'
    unfold IR.f19
    simp only [id WWd, IR.o, IR.e, Nat.reduceBEq, Nat.reduceAdd, reduceCtorEq, paramTm, List.map_cons, List.map_nil, forall_const, Option.map_some, Option.map_none, implies_true, id WZd, app_names (.inl rfl) (List.cons_ne_nil _ _) hns hl]

/-- What a start returns. -/
theorem free_im (v : IV) : AV.free (.im v) = true := rfl
theorem frz_sc (h : Heap) (x : Value) : AV.frz h 64 (.im (.sc x)) = some (.sc x) := rfl
theorem resP_2 {cs : List AV} {w : IV} {x : Value} {tm : Tm} {bx : Bx} {h : Heap} (h1 : getB bx 4 = some cs) (h2 : takeN 16 cs = some cs) (h3 : (mkAgg cs).free = true) (h4 : AV.frz h 64 (mkAgg cs) = some w) (h5 : getT tm 5 = .im (.sc x)) : resP [.cell 4 16 true, .tmp 5] ⟨tm, bx, h⟩ = some (.tup [.im w, .im (.sc x)]) := by
  unfold resP
  simp only [resVals, resVal, getCells, h1, h5, dropR0, h2, Option.map_some, of_t, h3, free_im, if_true, frzAll, h4, frz_sc, tupOf]

theorem frz_own (h : Heap) (ns m g : List IV) (n : Nat) (km kg : SK) (k i : Int) (s : ByteArray) (ls ks : List IV) (lk kk : SK) : AV.frz h 64 (mkAgg [.own ns n, .im (.sl m km), .im (.sl [] .nil), .im (.sl [] .nil), .im (.sc (.int .i64 0)), .im (.sl g kg), .im (.sc (.int .i64 k)), .im (.sc (.int .i64 i)), .im (.sc (.string s)), .im (.sl ls lk), .im (.sl ks kk), .im (.sc (.int .i64 12)), .im (.sc (.int .i64 0)), .im (.sc (.string ⟨#[]⟩)), .im (.sl [] .nil), .im (.sl [] .nil)]) = some (.agg [.sl ns .ro, .sl m (flatK m km), .sl [] .nil, .sl [] .nil, .sc (.int .i64 0), .sl g (flatK g kg), .sc (.int .i64 k), .sc (.int .i64 i), .sc (.string s), .sl ls (flatK ls lk), .sl ks (flatK ks kk), .sc (.int .i64 12), .sc (.int .i64 0), .sc (.string ⟨#[]⟩), .sl [] .nil, .sl [] .nil]) := by
  have : AV.frz h 64 (mkAgg [.own ns n, .im (.sl m km), .im (.sl [] .nil), .im (.sl [] .nil), .im (.sc (.int .i64 0)), .im (.sl g kg), .im (.sc (.int .i64 k)), .im (.sc (.int .i64 i)), .im (.sc (.string s)), .im (.sl ls lk), .im (.sl ks kk), .im (.sc (.int .i64 12)), .im (.sc (.int .i64 0)), .im (.sc (.string ⟨#[]⟩)), .im (.sl [] .nil), .im (.sl [] .nil)]) = some (.agg [.sl ns .ro, IV.flat (.sl m km), .sl [] .nil, .sl [] .nil, .sc (.int .i64 0), IV.flat (.sl g kg), .sc (.int .i64 k), .sc (.int .i64 i), .sc (.string s), IV.flat (.sl ls lk), IV.flat (.sl ks kk), .sc (.int .i64 12), .sc (.int .i64 0), .sc (.string ⟨#[]⟩), .sl [] .nil, .sl [] .nil]) := rfl
  rw [this]
  simp only [flat_slK]
theorem frz_im (h : Heap) (ns m g : List IV) (kn km kg : SK) (k i : Int) (s : ByteArray) (ls ks : List IV) (lk kk : SK) : AV.frz h 64 (mkAgg [.im (.sl ns kn), .im (.sl m km), .im (.sl [] .nil), .im (.sl [] .nil), .im (.sc (.int .i64 0)), .im (.sl g kg), .im (.sc (.int .i64 k)), .im (.sc (.int .i64 i)), .im (.sc (.string s)), .im (.sl ls lk), .im (.sl ks kk), .im (.sc (.int .i64 12)), .im (.sc (.int .i64 0)), .im (.sc (.string ⟨#[]⟩)), .im (.sl [] .nil), .im (.sl [] .nil)]) = some (.agg [.sl ns (flatK ns kn), .sl m (flatK m km), .sl [] .nil, .sl [] .nil, .sc (.int .i64 0), .sl g (flatK g kg), .sc (.int .i64 k), .sc (.int .i64 i), .sc (.string s), .sl ls (flatK ls lk), .sl ks (flatK ks kk), .sc (.int .i64 12), .sc (.int .i64 0), .sc (.string ⟨#[]⟩), .sl [] .nil, .sl [] .nil]) := by
  have : AV.frz h 64 (mkAgg [.im (.sl ns kn), .im (.sl m km), .im (.sl [] .nil), .im (.sl [] .nil), .im (.sc (.int .i64 0)), .im (.sl g kg), .im (.sc (.int .i64 k)), .im (.sc (.int .i64 i)), .im (.sc (.string s)), .im (.sl ls lk), .im (.sl ks kk), .im (.sc (.int .i64 12)), .im (.sc (.int .i64 0)), .im (.sc (.string ⟨#[]⟩)), .im (.sl [] .nil), .im (.sl [] .nil)]) = some (.agg [IV.flat (.sl ns kn), IV.flat (.sl m km), .sl [] .nil, .sl [] .nil, .sc (.int .i64 0), IV.flat (.sl g kg), .sc (.int .i64 k), .sc (.int .i64 i), .sc (.string s), IV.flat (.sl ls lk), IV.flat (.sl ks kk), .sc (.int .i64 12), .sc (.int .i64 0), .sc (.string ⟨#[]⟩), .sl [] .nil, .sl [] .nil]) := rfl
  rw [this]
  simp only [flat_slK]

theorem chk_kind {n kd i : Int} {s : ByteArray} {ls ks : List IV} {lk kk lk' kk' : SK} : chkT 0 n 0 0 (.agg [.sc (.int .i64 kd), .sc (.int .i64 i), .sc (.string s), .sl ls lk', .sl ks kk']) = chkT 0 n 0 0 (.agg [.sc (.int .i64 kd), .sc (.int .i64 i), .sc (.string s), .sl ls lk, .sl ks kk]) := by
  unfold chkT
  rw [errT, errT, szOf, szOf, dpOf, dpOf]

section
variable {ns : List IV} {k : SK} {kd i : Int} {s : ByteArray} {ls ks : List IV} {lk kk : SK}
theorem start_ref_many (h8 : 8 < (ns.length : Int)) : ∀ h, callFn EC (ev EC) 9 [.im (.sl ns k), .im (.agg [.sc (.int .i64 kd), .sc (.int .i64 i), .sc (.string s), .sl ls lk, .sl ks kk])] h = some ⟨.tup [.im prf0, .im (.sc (.int .i64 6))], .none, .none, false⟩ := by
  intro h
  refine callFn_P (F := IR.f9) rfl rfl rfl rfl rfl rfl rfl rfl ?_
  simp only [strip_sl, strip_agg, List.map_cons, List.map_nil, flat_sc, flat_slK]
  unfold IR.f9
  simp only [id WWd, IR.o, IR.e, Nat.reduceBEq, Nat.reduceAdd, reduceCtorEq, paramTm, List.map_cons, List.map_nil, forall_const, Option.map_some, Option.map_none, implies_true, id WYd, id WZd, h8]
  exact resP_2 rfl rfl rfl rfl rfl
theorem start_many (h8 : 8 < (ns.length : Int)) : ∀ h, callFn EC (ev EC) 8 [.im (.sl ns k), .im (.agg [.sc (.int .i64 kd), .sc (.int .i64 i), .sc (.string s), .sl ls lk, .sl ks kk])] h = some ⟨.tup [.im prf0, .im (.sc (.int .i64 6))], .none, .none, false⟩ := by
  intro h
  refine callFn_P (F := IR.f8) rfl rfl rfl rfl rfl rfl rfl rfl ?_
  simp only [strip_sl, strip_agg, List.map_cons, List.map_nil, flat_sc, flat_slK]
  unfold IR.f8
  simp only [id WWd, IR.o, IR.e, Nat.reduceBEq, Nat.reduceAdd, reduceCtorEq, paramTm, List.map_cons, List.map_nil, forall_const, Option.map_some, Option.map_none, implies_true, id WYd, id WZd, h8]
  exact resP_2 rfl rfl rfl rfl rfl
theorem start_ref_bad (h8 : ¬ 8 < (ns.length : Int)) (hv : TrmI (.agg [.sc (.int .i64 kd), .sc (.int .i64 i), .sc (.string s), .sl ls lk, .sl ks kk])) (hc : ¬ chkT 0 ns.length 0 0 (.agg [.sc (.int .i64 kd), .sc (.int .i64 i), .sc (.string s), .sl ls lk, .sl ks kk]) = 0) : ∀ h, callFn EC (ev EC) 9 [.im (.sl ns k), .im (.agg [.sc (.int .i64 kd), .sc (.int .i64 i), .sc (.string s), .sl ls lk, .sl ks kk])] h = some ⟨.tup [.im prf0, .im (.sc (.int .i64 (chkT 0 ns.length 0 0 (.agg [.sc (.int .i64 kd), .sc (.int .i64 i), .sc (.string s), .sl ls lk, .sl ks kk]))))], .none, .none, false⟩ := by
  intro h
  refine callFn_P (F := IR.f9) rfl rfl rfl rfl rfl rfl rfl rfl ?_
  have hE : ∀ lk' kk', callFn EC (ev EC) 20 [.im (.agg [.sc (.int .i64 kd), .sc (.int .i64 i), .sc (.string s), .sl ls lk', .sl ks kk']), .im (.sc (.int .i64 0)), .im (.sc (.int .i64 ns.length)), .im (.sc (.int .i64 0)), .im (.sc (.int .i64 0))] [] = some ⟨.im (.sc (.int .i64 (chkT 0 ns.length 0 0 (.agg [.sc (.int .i64 kd), .sc (.int .i64 i), .sc (.string s), .sl ls lk, .sl ks kk])))), .none, .none, false⟩ := fun lk' kk' => by
    rw [chk_ref (by omega) (by cases hv; constructor <;> assumption), chk_kind (lk := lk) (kk := kk)]
  simp only [strip_sl, strip_agg, List.map_cons, List.map_nil, flat_sc, flat_slK]
  generalize chkT 0 ns.length 0 0 (.agg [.sc (.int .i64 kd), .sc (.int .i64 i), .sc (.string s), .sl ls lk, .sl ks kk]) = c at *
  unfold IR.f9
  simp only [id WWd, IR.o, IR.e, Nat.reduceBEq, Nat.reduceAdd, reduceCtorEq, paramTm, List.map_cons, List.map_nil, forall_const, Option.map_some, Option.map_none, implies_true, id WYd, id WZd, h8, hE, hc]
  exact resP_2 rfl rfl rfl rfl rfl
theorem start_bad (h8 : ¬ 8 < (ns.length : Int)) (hv : TrmI (.agg [.sc (.int .i64 kd), .sc (.int .i64 i), .sc (.string s), .sl ls lk, .sl ks kk])) (hc : ¬ chkT 0 ns.length 0 0 (.agg [.sc (.int .i64 kd), .sc (.int .i64 i), .sc (.string s), .sl ls lk, .sl ks kk]) = 0) : ∀ h, callFn EC (ev EC) 8 [.im (.sl ns k), .im (.agg [.sc (.int .i64 kd), .sc (.int .i64 i), .sc (.string s), .sl ls lk, .sl ks kk])] h = some ⟨.tup [.im prf0, .im (.sc (.int .i64 (chkT 0 ns.length 0 0 (.agg [.sc (.int .i64 kd), .sc (.int .i64 i), .sc (.string s), .sl ls lk, .sl ks kk]))))], .none, .none, false⟩ := by
  intro h
  refine callFn_P (F := IR.f8) rfl rfl rfl rfl rfl rfl rfl rfl ?_
  have hE : ∀ lk' kk', callFn EC (ev EC) 18 [.im (.agg [.sc (.int .i64 kd), .sc (.int .i64 i), .sc (.string s), .sl ls lk', .sl ks kk']), .im (.sc (.int .i64 0)), .im (.sc (.int .i64 ns.length)), .im (.sc (.int .i64 0)), .im (.sc (.int .i64 0))] [] = some ⟨.im (.sc (.int .i64 (chkT 0 ns.length 0 0 (.agg [.sc (.int .i64 kd), .sc (.int .i64 i), .sc (.string s), .sl ls lk, .sl ks kk])))), .none, .none, false⟩ := fun lk' kk' => by
    rw [chk_spec (by omega) (by cases hv; constructor <;> assumption), chk_kind (lk := lk) (kk := kk)]
  simp only [strip_sl, strip_agg, List.map_cons, List.map_nil, flat_sc, flat_slK]
  generalize chkT 0 ns.length 0 0 (.agg [.sc (.int .i64 kd), .sc (.int .i64 i), .sc (.string s), .sl ls lk, .sl ks kk]) = c at *
  unfold IR.f8
  simp only [id WWd, IR.o, IR.e, Nat.reduceBEq, Nat.reduceAdd, reduceCtorEq, paramTm, List.map_cons, List.map_nil, forall_const, Option.map_some, Option.map_none, implies_true, id WYd, id WZd, h8, hE, hc]
  exact resP_2 rfl rfl rfl rfl rfl
theorem start_ref_ok (hns : ∀ v ∈ ns, ∃ s, v = .sc (.string s)) (h8 : ¬ 8 < (ns.length : Int)) (hv : TrmI (.agg [.sc (.int .i64 kd), .sc (.int .i64 i), .sc (.string s), .sl ls lk, .sl ks kk])) (hc : chkT 0 ns.length 0 0 (.agg [.sc (.int .i64 kd), .sc (.int .i64 i), .sc (.string s), .sl ls lk, .sl ks kk]) = 0) : ∃ kn, ∀ h, callFn EC (ev EC) 9 [.im (.sl ns k), .im (.agg [.sc (.int .i64 kd), .sc (.int .i64 i), .sc (.string s), .sl ls lk, .sl ks kk])] h = some ⟨.tup [.im (prfOf ns kn kd i s ls ks (flatK ls (flatK ls lk)) (flatK ks (flatK ks kk)) (flatK ls (flatK ls lk)) (flatK ks (flatK ks kk)) .ro), .im (.sc (.int .i64 0))], .none, .none, false⟩ := by
  have hE : ∀ lk' kk', callFn EC (ev EC) 20 [.im (.agg [.sc (.int .i64 kd), .sc (.int .i64 i), .sc (.string s), .sl ls lk', .sl ks kk']), .im (.sc (.int .i64 0)), .im (.sc (.int .i64 ns.length)), .im (.sc (.int .i64 0)), .im (.sc (.int .i64 0))] [] = some ⟨.im (.sc (.int .i64 0)), .none, .none, false⟩ := fun lk' kk' => by
    rw [chk_ref (by omega) (by cases hv; constructor <;> assumption), chk_kind (lk := lk) (kk := kk), hc]
  by_cases he : ns = []
  · subst he
    refine ⟨.nil, fun h => callFn_P (F := IR.f9) rfl rfl rfl rfl rfl rfl rfl rfl ?_⟩
    simp only [strip_sl, strip_agg, List.map_cons, List.map_nil, flat_sc, flat_slK]
    generalize flatK [] k = k2
    generalize flatK ls lk = lk'
    generalize flatK ks kk = kk'
    unfold IR.f9
    simp only [id WWd, IR.o, IR.e, Nat.reduceBEq, Nat.reduceAdd, reduceCtorEq, paramTm, List.map_cons, List.map_nil, forall_const, Option.map_some, Option.map_none, implies_true, id WYd, id WZd, h8, hE]
    exact resP_2 rfl rfl rfl (frz_im _ _ _ _ _ _ _ _ _ _ _ _ _ _) rfl
  · refine ⟨.ro, fun h => callFn_P (F := IR.f9) rfl rfl rfl rfl rfl rfl rfl rfl ?_⟩
    simp only [strip_sl, strip_agg, List.map_cons, List.map_nil, flat_sc, flat_slK]
    generalize flatK ns k = k2
    generalize flatK ls lk = lk'
    generalize flatK ks kk = kk'
    unfold IR.f9
    simp only [id WWd, IR.o, IR.e, Nat.reduceBEq, Nat.reduceAdd, reduceCtorEq, paramTm, List.map_cons, List.map_nil, forall_const, Option.map_some, Option.map_none, implies_true, id WYd, id WZd, h8, hE, app_names (.inr rfl) he hns (by omega : ns.length ≤ 8)]
    exact resP_2 rfl rfl rfl (frz_own _ _ _ _ _ _ _ _ _ _ _ _ _ _) rfl
theorem start_ok (hns : ∀ v ∈ ns, ∃ s, v = .sc (.string s)) (hk : ns = [] → k = .nil ∨ k = .live) (h8 : ¬ 8 < (ns.length : Int)) (hv : TrmI (.agg [.sc (.int .i64 kd), .sc (.int .i64 i), .sc (.string s), .sl ls lk, .sl ks kk])) (hc : chkT 0 ns.length 0 0 (.agg [.sc (.int .i64 kd), .sc (.int .i64 i), .sc (.string s), .sl ls lk, .sl ks kk]) = 0) : ∃ kn, ∀ h, callFn EC (ev EC) 8 [.im (.sl ns k), .im (.agg [.sc (.int .i64 kd), .sc (.int .i64 i), .sc (.string s), .sl ls lk, .sl ks kk])] h = some ⟨.tup [.im (prfOf ns kn kd i s ls ks (flatK ls (flatK ls lk)) (flatK ks (flatK ks kk)) (flatK ls (flatK ls lk)) (flatK ks (flatK ks kk)) .ro), .im (.sc (.int .i64 0))], .none, .none, false⟩ := by
  have hE : ∀ lk' kk', callFn EC (ev EC) 18 [.im (.agg [.sc (.int .i64 kd), .sc (.int .i64 i), .sc (.string s), .sl ls lk', .sl ks kk']), .im (.sc (.int .i64 0)), .im (.sc (.int .i64 ns.length)), .im (.sc (.int .i64 0)), .im (.sc (.int .i64 0))] [] = some ⟨.im (.sc (.int .i64 0)), .none, .none, false⟩ := fun lk' kk' => by
    rw [chk_spec (by omega) (by cases hv; constructor <;> assumption), chk_kind (lk := lk) (kk := kk), hc]
  obtain ⟨k1, hk1⟩ := clone_spec (k := flatK ns k) hns (by omega) (fun h => by
    rcases hk h with rfl | rfl <;> subst h
    · exact .inl rfl
    · exact .inr rfl)
  refine ⟨flatK ns k1, fun h => callFn_P (F := IR.f8) rfl rfl rfl rfl rfl rfl rfl rfl ?_⟩
  simp only [strip_sl, strip_agg, List.map_cons, List.map_nil, flat_sc, flat_slK]
  generalize flatK ls lk = lk'
  generalize flatK ks kk = kk'
  unfold IR.f8
  simp only [id WWd, IR.o, IR.e, Nat.reduceBEq, Nat.reduceAdd, reduceCtorEq, paramTm, List.map_cons, List.map_nil, forall_const, Option.map_some, Option.map_none, implies_true, id WYd, id WZd, h8, hE]
  refine W_drawG ?_
  simp only [ok, log_call, log_mv, log_off, log_ld, log_st, log_build, log_mkS, log_nil, logK, logQ, runOp, callV_func, ops_nil, List.append_nil, List.nil_append, List.cons_append, hk1, sOp_some, sOp_box, setT_none, WLg_some, id WWd, IR.o, IR.e, Nat.reduceBEq, Nat.reduceAdd, reduceCtorEq, paramTm, List.map_cons, List.map_nil, forall_const, Option.map_some, Option.map_none, implies_true, id WYd, id WZd]
  exact ⟨rfl, resP_2 rfl rfl rfl (frz_im _ _ _ _ _ _ _ _ _ _ _ _ _ _) rfl⟩
end
end Go.Em
namespace Go.Em
open Go
set_option maxRecDepth 20000

/-- Names that were handed in. -/
inductive NamI : IV → Prop
  | mk (ns : List IV) (k : SK) (hv : ∀ v ∈ ns, ∃ s, v = .sc (.string s)) (hn : ns.length ≤ maxLen) (hk : ns = [] → k = .nil ∨ k = .live) : NamI (.sl ns k)

theorem long1 (s : ByteArray) : ∀ h, callFn EC (ev EC) 5 [.im (.sc (.string s))] h = some ⟨.im (.sc (.bool (decide ((80 : Int) < s.size)))), .none, .none, false⟩ := by
  intro h
  refine callFn_P (F := IR.f5) rfl rfl rfl rfl rfl rfl rfl rfl ?_
  unfold IR.f5
  simp only [id WWd, IR.o, IR.e, Nat.reduceBEq, Nat.reduceAdd, reduceCtorEq, paramTm, List.map_cons, List.map_nil, forall_const, Option.map_some, Option.map_none, implies_true]
  exact ⟨fun h => bool_eq (decide_eq_true h), fun h => bool_eq (decide_eq_false h)⟩

theorem long_idx {ns : List IV} {k : SK} (hv : ∀ v ∈ ns, ∃ s, v = .sc (.string s)) (hn : ns.length ≤ maxLen) : ∃ r : Int, ∀ h, callFn EC (ev EC) 11 [.im (.sl ns k), .im (.fn (.func 5) [] [])] h = some ⟨.im (.sc (.int .i64 r)), .none, .none, false⟩ := by
  have := callFn_PE (E := EC) (f := 11) (F := IR.f11) (args := [.im (.sl ns k), .im (.fn (.func 5) [] [])]) (R := fun r => ∃ n : Int, r = .im (.sc (.int .i64 n))) rfl rfl rfl rfl rfl rfl rfl rfl ?_
  · obtain ⟨_, ⟨n, rfl⟩, h2⟩ := this
    exact ⟨n, h2⟩
  simp only [strip_sl, strip_fn]
  generalize flatK ns k = k'
  unfold IR.f11
  simp only [id WWd, IR.o, IR.e, Nat.reduceBEq, Nat.reduceAdd, reduceCtorEq, paramTm, List.map_cons, List.map_nil, forall_const, Option.map_some, Option.map_none, implies_true]
  refine W_for ns.length (fun j => ⟨[(0, .im (.sl ns k')), (1, .im (.fn (.func 5) [] [])), (4, .im (.sc (.int .i64 0))), (7, .im (.sc (.int .i64 ns.length))), (8, .im (.sc (.int .i64 (j : Int))))], [], []⟩) ?_ ?_ ?_
  · simp only [id WWd, IR.o, IR.e, Nat.reduceBEq, Nat.reduceAdd, reduceCtorEq, paramTm, List.map_cons, List.map_nil, forall_const, Option.map_some, Option.map_none, implies_true]
    rfl
  · intro j hj
    obtain ⟨x, hx⟩ : ∃ x, ns[j]? = some x := ⟨_, List.getElem?_eq_getElem hj⟩
    have hxm := List.mem_of_getElem? hx
    have hlt : (j : Int) < ns.length := by omega
    have hw : wr ((j : Int) + 1) = ((j + 1 : Nat) : Int) := wr_id (by omega) (by have := maxLen_lt; omega)
    obtain ⟨s1, rfl⟩ := hv x hxm
    have e2 := idx_sl 1 ns k' .i64 j _ hx rfl
    simp only [IV.cells] at e2
    by_cases hc : (80 : Int) < s1.size
    · simp only [id WWd, IR.o, IR.e, Nat.reduceBEq, Nat.reduceAdd, reduceCtorEq, paramTm, List.map_cons, List.map_nil, forall_const, Option.map_some, Option.map_none, implies_true, hlt, e2, List.append_nil, List.nil_append, List.cons_append, long1, hw, hc, decide_true]
      exact ⟨_, ⟨_, rfl⟩, rfl⟩
    · simp only [id WWd, IR.o, IR.e, Nat.reduceBEq, Nat.reduceAdd, reduceCtorEq, paramTm, List.map_cons, List.map_nil, forall_const, Option.map_some, Option.map_none, implies_true, hlt, e2, List.append_nil, List.nil_append, List.cons_append, long1, hw, hc, decide_false]
  · simp only [id WWd, IR.o, IR.e, Nat.reduceBEq, Nat.reduceAdd, reduceCtorEq, paramTm, List.map_cons, List.map_nil, forall_const, Option.map_some, Option.map_none, implies_true]
    exact ⟨_, ⟨_, rfl⟩, rfl⟩

theorem long_any {ns : List IV} {k : SK} (hv : ∀ v ∈ ns, ∃ s, v = .sc (.string s)) (hn : ns.length ≤ maxLen) : ∃ b : Bool, ∀ h, callFn EC (ev EC) 4 [.im (.sl ns k), .im (.fn (.func 5) [] [])] h = some ⟨.im (.sc (.bool b)), .none, .none, false⟩ := by
  obtain ⟨r, hr⟩ := long_idx (k := flatK ns k) hv hn
  refine ⟨decide (0 ≤ r), fun h => callFn_P (F := IR.f4) rfl rfl rfl rfl rfl rfl rfl rfl ?_⟩
  simp only [strip_sl, strip_fn]
  unfold IR.f4
  simp only [id WWd, IR.o, IR.e, Nat.reduceBEq, Nat.reduceAdd, reduceCtorEq, paramTm, List.map_cons, List.map_nil, forall_const, Option.map_some, Option.map_none, implies_true, hr]
  exact ⟨fun h => bool_eq (decide_eq_true (by omega)), fun h => bool_eq (decide_eq_false (by omega))⟩

theorem aw_h (n : Nat) (h : Heap) : callFn EC (exec EC n) 7 [] h = callFn EC (exec EC n) 7 [] [] := rfl
theorem aw_spec (h : Heap) : callFn EC (ev EC) 7 [] h = some ⟨.im (.sc (.bool true)), .none, .none, false⟩ := by
  have e : callFn EC (ev EC) 7 [] h = callFn EC (ev EC) 7 [] [] := rfl
  rw [e]
  exact awEv

theorem law_true {i0 v : IV} (h0 : NamI i0) (hv : TrmI v) : callFn EC (ev EC) 3 [.im i0, .im v] [] = some { v := .im (.sc (.bool true)) } := by
  obtain ⟨ns, k, hns, hn, hk⟩ := h0
  obtain ⟨b, hb⟩ := long_any (k := flatK ns k) hns hn
  have hz := sz_spec hv
  obtain ⟨kd, i, s, ls, ks, lk, kk, hks, hkn, hl, hm, hs⟩ := hv
  have h1' : ∀ lk' kk', TrmI (.agg [.sc (.int .i64 kd), .sc (.int .i64 i), .sc (.string s), .sl ls lk', .sl ks kk']) := fun lk' kk' => .mk kd i s ls ks lk' kk' hks hkn hl hm hs
  have hz : ∀ h, callFn EC (ev EC) 6 [.im (.agg [.sc (.int .i64 kd), .sc (.int .i64 i), .sc (.string s), .sl ls (flatK ls lk), .sl ks (flatK ks kk)])] h = _ := fun h => sz_spec (h1' (flatK ls lk) (flatK ks kk)) h
  refine callFn_P (F := IR.f3) rfl rfl rfl rfl rfl rfl rfl rfl ?_
  simp only [strip_sl, strip_agg, List.map_cons, List.map_nil, flat_sc, flat_slK]
  have hkf : ns = [] → flatK ns k = .nil ∨ flatK ns k = .live := fun h => by
    rcases hk h with rfl | rfl <;> subst h
    · exact .inl rfl
    · exact .inr rfl
  generalize flatK ns k = k' at *
  generalize flatK ls lk = lk' at *
  generalize flatK ks kk = kk' at *
  generalize szOf _ = z at hz
  unfold IR.f3
  by_cases h12 : 12 < (ns.length : Int)
  · simp only [id WWd, IR.o, IR.e, Nat.reduceBEq, Nat.reduceAdd, reduceCtorEq, paramTm, List.map_cons, List.map_nil, forall_const, Option.map_some, Option.map_none, implies_true, id WYd, id WZd, h12, aw_spec]
  cases b with
  | true => simp only [id WWd, IR.o, IR.e, Nat.reduceBEq, Nat.reduceAdd, reduceCtorEq, paramTm, List.map_cons, List.map_nil, forall_const, Option.map_some, Option.map_none, implies_true, id WYd, id WZd, h12, hb, aw_spec]
  | false =>
  by_cases h60 : 60 < z
  · simp only [id WWd, IR.o, IR.e, Nat.reduceBEq, Nat.reduceAdd, reduceCtorEq, paramTm, List.map_cons, List.map_nil, forall_const, Option.map_some, Option.map_none, implies_true, id WYd, id WZd, h12, hb, hz, h60, aw_spec]
  have hp := sm_prf0
  unfold prf0 at hp
  by_cases h8 : 8 < (ns.length : Int)
  · simp only [id WWd, IR.o, IR.e, Nat.reduceBEq, Nat.reduceAdd, reduceCtorEq, paramTm, List.map_cons, List.map_nil, forall_const, Option.map_some, Option.map_none, implies_true, id WYd, id WZd, h12, hb, hz, h60, aw_spec, start_many h8, start_ref_many h8, hp]
  by_cases hc : chkT 0 ns.length 0 0 (.agg [.sc (.int .i64 kd), .sc (.int .i64 i), .sc (.string s), .sl ls lk', .sl ks kk']) = 0
  · obtain ⟨k1, e1⟩ := start_ok hns hkf h8 (h1' lk' kk') hc
    obtain ⟨k2, e2⟩ := start_ref_ok (k := k') hns h8 (h1' lk' kk') hc
    have hs := sm_prf (kn := k1) (km := k2) (lk2 := flatK ls (flatK ls lk')) (kk2 := flatK ks (flatK ks kk')) (q := .ro) hns hn (h1' (flatK ls (flatK ls lk')) (flatK ks (flatK ks kk')))
    unfold prfOf at e1 e2 hs
    simp only [id WWd, IR.o, IR.e, Nat.reduceBEq, Nat.reduceAdd, reduceCtorEq, paramTm, List.map_cons, List.map_nil, forall_const, Option.map_some, Option.map_none, implies_true, id WYd, id WZd, h12, hb, hz, h60, aw_spec, e1, e2, hs]
  · simp only [id WWd, IR.o, IR.e, Nat.reduceBEq, Nat.reduceAdd, reduceCtorEq, paramTm, List.map_cons, List.map_nil, forall_const, Option.map_some, Option.map_none, implies_true, id WYd, id WZd, h12, hb, hz, h60, aw_spec, start_bad h8 (h1' lk' kk') hc, start_ref_bad h8 (h1' lk' kk') hc, hp]
end Go.Em
namespace Go.Em
open Go
set_option maxRecDepth 20000

theorem u3 : Go.Proofs.Tryz.prog.underlying 3 = some (.int .i64) := by kernel_rfl
theorem u9 : Go.Proofs.Tryz.prog.underlying 9 = some .string := by kernel_rfl
theorem u22 : Go.Proofs.Tryz.prog.underlying 22 = some (.slice 9) := by kernel_rfl
theorem u23 : Go.Proofs.Tryz.prog.underlying 23 = some (.slice 74) := by kernel_rfl
theorem u24 : Go.Proofs.Tryz.prog.underlying 24 = some (.slice 26) := by kernel_rfl
theorem u72 : Go.Proofs.Tryz.prog.underlying 72 = some (.slice 167) := by kernel_rfl
def fld (n : String) (t : TypeId) (o b : Nat) : Field := { name := n, type := t, offset := o, embedded := false, tag := "", pkgPath := "", byteOffset := b }
theorem u26 : Go.Proofs.Tryz.prog.underlying 26 = some (.struct #[fld "Kind" 3 0 0, fld "Index" 3 1 8, fld "Name" 9 2 16, fld "Levels" 23 3 32, fld "Kids" 24 4 56]) := by kernel_rfl
theorem u74 : Go.Proofs.Tryz.prog.underlying 74 = some (.struct #[fld "Const" 3 0 0, fld "Vars" 72 1 8]) := by kernel_rfl
theorem u167 : Go.Proofs.Tryz.prog.underlying 167 = some (.struct #[fld "Index" 3 0 0, fld "Plus" 3 1 8]) := by kernel_rfl
theorem c3 : Go.Proofs.Tryz.prog.cellsOf 3 = 1 := by kernel_rfl
theorem c9 : Go.Proofs.Tryz.prog.cellsOf 9 = 1 := by kernel_rfl
theorem c23 : Go.Proofs.Tryz.prog.cellsOf 23 = 1 := by kernel_rfl
theorem c24 : Go.Proofs.Tryz.prog.cellsOf 24 = 1 := by kernel_rfl
theorem c72 : Go.Proofs.Tryz.prog.cellsOf 72 = 1 := by kernel_rfl
theorem c26 : Go.Proofs.Tryz.prog.cellsOf 26 = 5 := by kernel_rfl
theorem c74 : Go.Proofs.Tryz.prog.cellsOf 74 = 2 := by kernel_rfl
theorem c167 : Go.Proofs.Tryz.prog.cellsOf 167 = 2 := by kernel_rfl

/-- What the cells of a type are. -/
structure Good (t : TypeId) (cs : List IV) : Prop where
  g3 : t = 3 → ∃ n, cs = [.sc (.int .i64 n)]
  g9 : t = 9 → ∃ s, cs = [.sc (.string s)] ∧ s.size ≤ maxLen
  g22 : t = 22 → ∃ ns k, cs = [.sl ns k] ∧ NamI (.sl ns k)
  g23 : t = 23 → ∃ ls k, cs = [.sl ls k] ∧ (∀ l ∈ ls, LevI l) ∧ ls.length ≤ maxLen
  g24 : t = 24 → ∃ ks k, cs = [.sl ks k] ∧ (∀ l ∈ ks, TrmI l) ∧ ks.length ≤ maxLen
  g72 : t = 72 → ∃ vs k, cs = [.sl vs k] ∧ (∀ l ∈ vs, VarI l) ∧ vs.length ≤ maxLen
  g26 : t = 26 → TrmI (.agg cs)
  g74 : t = 74 → LevI (.agg cs)
  g167 : t = 167 → VarI (.agg cs)

theorem elem_agg {n : Nat} (h : n ≠ 1) (cs : List IV) : elemIV n cs = .agg cs := by
  unfold elemIV
  split
  · exact absurd rfl h
  · rfl

theorem good_of {t : TypeId} {cs : List IV} (h : Shape Go.Proofs.Tryz.prog t cs) : Good t cs := by
  induction h with
  | bool h => constructor <;> (rintro rfl; first | (rw [u3] at h; cases h) | (rw [u9] at h; cases h) | (rw [u22] at h; cases h) | (rw [u23] at h; cases h) | (rw [u24] at h; cases h) | (rw [u72] at h; cases h) | (rw [u26] at h; cases h) | (rw [u74] at h; cases h) | (rw [u167] at h; cases h))
  | int h hw => constructor <;> (rintro rfl; first | (rw [u3] at h; cases h; exact ⟨_, rfl⟩) | (rw [u9] at h; cases h) | (rw [u22] at h; cases h) | (rw [u23] at h; cases h) | (rw [u24] at h; cases h) | (rw [u72] at h; cases h) | (rw [u26] at h; cases h) | (rw [u74] at h; cases h) | (rw [u167] at h; cases h))
  | str h hs => constructor <;> (rintro rfl; first | (rw [u3] at h; cases h) | (rw [u9] at h; exact ⟨_, rfl, hs⟩) | (rw [u22] at h; cases h) | (rw [u23] at h; cases h) | (rw [u24] at h; cases h) | (rw [u72] at h; cases h) | (rw [u26] at h; cases h) | (rw [u74] at h; cases h) | (rw [u167] at h; cases h))
  | @sl t e css k h hn hk hk' hc he ih =>
    constructor
    case g22 =>
      rintro rfl
      rw [u22] at h
      cases h
      refine ⟨_, _, rfl, .mk _ _ (fun v hv => ?_) (by rw [List.length_map]; exact hn) (fun h => hk (List.map_eq_nil_iff.1 h))⟩
      obtain ⟨cs, h1, rfl⟩ := List.mem_map.1 hv
      obtain ⟨s, rfl, hs⟩ := (ih cs h1).g9 rfl
      rw [c9]
      exact ⟨s, rfl⟩
    case g23 =>
      rintro rfl
      rw [u23] at h
      cases h
      refine ⟨_, _, rfl, fun v hv => ?_, by rw [List.length_map]; exact hn⟩
      obtain ⟨cs, h1, rfl⟩ := List.mem_map.1 hv
      rw [c74, elem_agg (by omega)]
      exact (ih cs h1).g74 rfl
    case g24 =>
      rintro rfl
      rw [u24] at h
      cases h
      refine ⟨_, _, rfl, fun v hv => ?_, by rw [List.length_map]; exact hn⟩
      obtain ⟨cs, h1, rfl⟩ := List.mem_map.1 hv
      rw [c26, elem_agg (by omega)]
      exact (ih cs h1).g26 rfl
    case g72 =>
      rintro rfl
      rw [u72] at h
      cases h
      refine ⟨_, _, rfl, fun v hv => ?_, by rw [List.length_map]; exact hn⟩
      obtain ⟨cs, h1, rfl⟩ := List.mem_map.1 hv
      rw [c167, elem_agg (by omega)]
      exact (ih cs h1).g167 rfl
    all_goals (rintro rfl; first | (rw [u3] at h; cases h) | (rw [u9] at h; cases h) | (rw [u26] at h; cases h) | (rw [u74] at h; cases h) | (rw [u167] at h; cases h))
  | @struct t fs cs h hl hf ih =>
    constructor
    case g26 =>
      rintro rfl
      rw [u26] at h
      simp only [Option.some.injEq, TypeDesc.struct.injEq] at h
      subst h
      rw [c26] at hl
      match cs, hl with
      | [a, b, c, d, e], _ =>
        have f0 := (ih (fld "Kind" 3 0 0) (by simp)).g3 rfl
        have f1 := (ih (fld "Index" 3 1 8) (by simp)).g3 rfl
        have f2 := (ih (fld "Name" 9 2 16) (by simp)).g9 rfl
        have f3 := (ih (fld "Levels" 23 3 32) (by simp)).g23 rfl
        have f4 := (ih (fld "Kids" 24 4 56) (by simp)).g24 rfl
        simp only [fld, c3, c9, c23, c24, List.drop_zero, List.drop_succ_cons, List.take_succ_cons, List.take_zero, List.cons.injEq, and_true] at f0 f1 f2 f3 f4
        obtain ⟨n0, rfl⟩ := f0
        obtain ⟨n1, rfl⟩ := f1
        obtain ⟨s, rfl, hs⟩ := f2
        obtain ⟨ls, k, rfl, h1, h2⟩ := f3
        obtain ⟨ks, kk, rfl, h3, h4⟩ := f4
        exact .mk _ _ _ _ _ _ _ h3 h4 h1 h2 hs
    case g74 =>
      rintro rfl
      rw [u74] at h
      simp only [Option.some.injEq, TypeDesc.struct.injEq] at h
      subst h
      rw [c74] at hl
      match cs, hl with
      | [a, b], _ =>
        have f0 := (ih (fld "Const" 3 0 0) (by simp)).g3 rfl
        have f1 := (ih (fld "Vars" 72 1 8) (by simp)).g72 rfl
        simp only [fld, c3, c72, List.drop_zero, List.drop_succ_cons, List.take_succ_cons, List.take_zero, List.cons.injEq, and_true] at f0 f1
        obtain ⟨n0, rfl⟩ := f0
        obtain ⟨vs, k, rfl, h1, h2⟩ := f1
        exact .mk _ _ _ h1 h2
    case g167 =>
      rintro rfl
      rw [u167] at h
      simp only [Option.some.injEq, TypeDesc.struct.injEq] at h
      subst h
      rw [c167] at hl
      match cs, hl with
      | [a, b], _ =>
        have f0 := (ih (fld "Index" 3 0 0) (by simp)).g3 rfl
        have f1 := (ih (fld "Plus" 3 1 8) (by simp)).g3 rfl
        simp only [fld, c3, List.drop_zero, List.drop_succ_cons, List.take_succ_cons, List.take_zero, List.cons.injEq, and_true] at f0 f1
        obtain ⟨n0, rfl⟩ := f0
        obtain ⟨n1, rfl⟩ := f1
        exact .mk _ _
    all_goals (rintro rfl; first | (rw [u3] at h; cases h) | (rw [u9] at h; cases h) | (rw [u22] at h; cases h) | (rw [u23] at h; cases h) | (rw [u24] at h; cases h) | (rw [u72] at h; cases h))

theorem law {i0 : IV} {l1 : List IV} (s0 : Shape Go.Proofs.Tryz.prog 22 [i0]) (s1 : Shape Go.Proofs.Tryz.prog 26 l1) : callFn EC (ev EC) 3 ([i0, .agg l1].map .im) [] = some { v := .im (.sc (.bool true)) } := by
  obtain ⟨ns, k, h, hN⟩ := (good_of s0).g22 rfl
  simp only [List.cons.injEq, and_true] at h
  subst h
  exact law_true hN ((good_of s1).g26 rfl)
end Go.Em
