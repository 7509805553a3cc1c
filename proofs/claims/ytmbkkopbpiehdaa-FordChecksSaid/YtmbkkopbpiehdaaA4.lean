/- The texts that this proof leans on, part 4. -/
import Derived.Test.YtmbkkopbpiehdaaA3
import Derived.KernelRfl
set_option linter.unusedSimpArgs false
set_option linter.unusedVariables false
/- The functions of the reference implementation of layers 4 and 5 that tell whether a grammar is small and valid: what they compute. -/
namespace AM
open Go
attribute [local simp] opsD_nil opsD_cons kG_true kG_false kO_some kO_none kR_some kR_none kS_normal kS_ret kS_exit kS_none kC_true kC_false kK_some exec_skip exec_reg exec_seq exec_cond exec_blk exec_loop exec_exit exec_ret exec_kp inBlk_normal inBlk_ret inBlk_exit inBlk_none endD_normal endD_ret endD_none
attribute [local simp] opD step wanted guardB lk putE Opd.ev evAll argEnv newO pushO getO setO keep D.cells D.one D.stb D.lvl D.lvl.lvlAll asB asI asArr asMap asStr asAgg ldD faD partD binD binI binS eqD eqL_cons eqL_nil ite_tf ite_bf eqSK unD stD putCells may nckD resD tupD frz frz.frzAll okD iaAD iaSD lenVD lenSD callDD callFn fills extD mxD mnD maxL minL
set_option maxRecDepth 10000
set_option maxHeartbeats 0
set_option linter.unusedSimpArgs false
set_option linter.unusedVariables false
variable {bar T : Nat} {h : Heap}
def letter (c : Int) (first : Bool) : Bool :=
  if 48 ≤ c ∧ c ≤ 57 then !first else decide (c = 95) || (decide (97 ≤ c) && decide (c ≤ 122)) || (decide (65 ≤ c) && decide (c ≤ 90))
theorem Letter_ok (c : Int) (first : Bool) : PS.call bar T F.ref04_Letter [.int .u8 c, .bool first] h = some (.bool (letter c first), h) := by
  rw [E.ref04_Letter]
  simp only [C.ref04_Letter]
  repeat' (simp [*, -List.getElem_cons_drop, letter] <;> first | (simp only [kC_bool, kG_bool, brk_ite]; split <;> (rename_i hc; try simp only [decide_eq_true_eq, Bool.not_eq_true, Bool.not_eq_eq_eq_not, Bool.not_true, Bool.not_false, decide_eq_false_iff_not, Decidable.not_not] at hc)) | exact decide_eq_decide.2 Iff.rfl | skip)
def nameL : Bool → List UInt8 → Bool
  | _, [] => true
  | f, c :: s => letter c.toNat f && nameL false s
def nameF (s : List UInt8) : Bool := nameL true s && decide (¬ s = [])
theorem Name_lp {s : List UInt8} (hs : s.length ≤ 140737488355327) : ∀ (i : Nat) (ρ : Env), keep [0, 3] ρ = some [(0, .str s), (3, .int .i64 i)] →
    endD (T + 1) [.tmp 2] false (kS PA PS bar (T + 1) (inBlk 0 (PS.lp bar (T + 1) L.ref04_Name_0 ρ ([] :: h))) K.ref04_Name_0) = some (.bool (nameL (decide (i = 0)) (s.drop i) && decide (¬ s = [])), h) := by
  refine down s.length fun i ih ρ hk => ?_
  by_cases e : i < s.length
  · replace ih := ih e
    have e1 := wrap_succ e hs
    rw [drop_at e]; rw [P.ref04_Name_0, hk]; simp only [B.ref04_Name_0]
    repeat' (simp [*, -List.getElem_cons_drop, nameL, inRange_nat, Letter_ok] <;> first | (simp only [kC_bool, kG_bool, brk_ite]; split <;> (rename_i hc; try simp only [decide_eq_true_eq, Bool.not_eq_true, Bool.not_eq_eq_eq_not, Bool.not_true, Bool.not_false, decide_eq_false_iff_not, Decidable.not_not] at hc)) | exact decide_eq_decide.2 Iff.rfl | skip)
  · rw [drop_end e]; rw [P.ref04_Name_0, hk]; simp only [B.ref04_Name_0]
    repeat' (simp [*, -List.getElem_cons_drop, nameL, K.ref04_Name_0] <;> first | (simp only [kC_bool, kG_bool, brk_ite]; split <;> (rename_i hc; try simp only [decide_eq_true_eq, Bool.not_eq_true, Bool.not_eq_eq_eq_not, Bool.not_true, Bool.not_false, decide_eq_false_iff_not, Decidable.not_not] at hc)) | exact decide_eq_decide.2 Iff.rfl | skip)
theorem Name_ok {s : List UInt8} (hs : s.length ≤ 140737488355327) : PS.call bar T F.ref04_Name [.str s] h = some (.bool (nameF s), h) := by
  rw [E.ref04_Name]
  simp only [C.ref04_Name]
  repeat' (simp [*, -List.getElem_cons_drop] <;> first | (simp only [kC_bool, kG_bool, brk_ite]; split <;> (rename_i hc; try simp only [decide_eq_true_eq, Bool.not_eq_true, Bool.not_eq_eq_eq_not, Bool.not_true, Bool.not_false, decide_eq_false_iff_not, Decidable.not_not] at hc)) | exact decide_eq_decide.2 Iff.rfl | skip)
  refine Eq.trans (Name_lp hs 0 _ ?_) ?_ <;> simp [nameF]
/-! few rules and nodes -/
def fewK (g : Gram) : Bool := decide ((g.rules.length : Int) ≤ 30) && decide ((g.nodes.length : Int) ≤ 300)
def fewF (g : Gram) : Bool := allL (fun r => !decide ((r.name.length : Int) > 100)) g.rules && (allL (fun x => !decide ((x.kids.length : Int) > 60)) g.nodes && fewK g)
theorem Few_lp1 {g : Gram} (hg : g.Ok) : ∀ (i : Nat) (ρ : Env), keep [1, 4] ρ = some [(1, .ptr T 0 0 0), (4, .int .i64 i)] →
    endD (T + 1) [.tmp 2] false (kS PA PS bar (T + 1) (inBlk 2 (PS.lp bar (T + 1) L.ref05_Few_1 ρ ([.arr [g.cells]] :: h))) K.ref05_Few_0) = some (.bool (allL (fun x => !decide ((x.kids.length : Int) > 60)) (g.nodes.drop i) && fewK g), h) := by
  refine down g.nodes.length fun i ih ρ hk => ?_
  by_cases e : i < g.nodes.length
  · replace ih := ih e
    have e1 := wrap_succ e hg.ln
    rw [drop_at e]; rw [P.ref05_Few_1, hk]; simp only [B.ref05_Few_1]
    repeat' (simp [*, -List.getElem_cons_drop, inRange_nat] <;> first | (simp only [kC_bool, kG_bool, brk_ite]; split <;> (rename_i hc; try simp only [decide_eq_true_eq, Bool.not_eq_true, Bool.not_eq_eq_eq_not, Bool.not_true, Bool.not_false, decide_eq_false_iff_not, Decidable.not_not] at hc)) | exact decide_eq_decide.2 Iff.rfl | skip)
  · rw [drop_end e]; rw [P.ref05_Few_1, hk]; simp only [B.ref05_Few_1]
    repeat' (simp [*, -List.getElem_cons_drop, K.ref05_Few_0, fewK] <;> first | (simp only [kC_bool, kG_bool, brk_ite]; split <;> (rename_i hc; try simp only [decide_eq_true_eq, Bool.not_eq_true, Bool.not_eq_eq_eq_not, Bool.not_true, Bool.not_false, decide_eq_false_iff_not, Decidable.not_not] at hc)) | exact decide_eq_decide.2 Iff.rfl | skip)
theorem Few_lp0 {g : Gram} (hg : g.Ok) : ∀ (i : Nat) (ρ : Env), keep [1, 3] ρ = some [(1, .ptr T 0 0 0), (3, .int .i64 i)] →
    endD (T + 1) [.tmp 2] false (kS PA PS bar (T + 1) (inBlk 0 (PS.lp bar (T + 1) L.ref05_Few_0 ρ ([.arr [g.cells]] :: h))) K.ref05_Few_1) = some (.bool (allL (fun r => !decide ((r.name.length : Int) > 100)) (g.rules.drop i) && (allL (fun x => !decide ((x.kids.length : Int) > 60)) g.nodes && fewK g)), h) := by
  refine down g.rules.length fun i ih ρ hk => ?_
  by_cases e : i < g.rules.length
  · replace ih := ih e
    have e1 := wrap_succ e hg.lr
    rw [drop_at e]; rw [P.ref05_Few_0, hk]; simp only [B.ref05_Few_0]
    repeat' (simp [*, -List.getElem_cons_drop, inRange_nat] <;> first | (simp only [kC_bool, kG_bool, brk_ite]; split <;> (rename_i hc; try simp only [decide_eq_true_eq, Bool.not_eq_true, Bool.not_eq_eq_eq_not, Bool.not_true, Bool.not_false, decide_eq_false_iff_not, Decidable.not_not] at hc)) | exact decide_eq_decide.2 Iff.rfl | skip)
  · rw [drop_end e]; rw [P.ref05_Few_0, hk]; simp only [B.ref05_Few_0]
    repeat' (simp [*, -List.getElem_cons_drop, K.ref05_Few_1] <;> first | (simp only [kC_bool, kG_bool, brk_ite]; split <;> (rename_i hc; try simp only [decide_eq_true_eq, Bool.not_eq_true, Bool.not_eq_eq_eq_not, Bool.not_true, Bool.not_false, decide_eq_false_iff_not, Decidable.not_not] at hc)) | exact decide_eq_decide.2 Iff.rfl | skip)
    refine Eq.trans (Few_lp1 hg 0 _ ?_) ?_ <;> simp
theorem Few_ok {g : Gram} (hg : g.Ok) : PS.call bar T F.ref05_Few [.agg g.cells] h = some (.bool (fewF g), h) := by
  rw [E.ref05_Few]
  simp only [C.ref05_Few]
  repeat' (simp [*, -List.getElem_cons_drop] <;> first | (simp only [kC_bool, kG_bool, brk_ite]; split <;> (rename_i hc; try simp only [decide_eq_true_eq, Bool.not_eq_true, Bool.not_eq_eq_eq_not, Bool.not_true, Bool.not_false, decide_eq_false_iff_not, Decidable.not_not] at hc)) | exact decide_eq_decide.2 Iff.rfl | skip)
  refine Eq.trans (Few_lp0 hg 0 _ ?_) ?_ <;> simp [fewF]
/-! nodes that are well made -/
def madeF (x : Node) (rules : Int) : Bool :=
  if x.op < 0 ∨ x.op > 9 then false
  else if (x.op ≤ 2 ∧ (x.kids.length : Int) ≠ 0) ∨ ((x.op = 3 ∨ x.op = 4) ∧ (x.kids.length : Int) < 2) ∨ (x.op ≥ 5 ∧ (x.kids.length : Int) ≠ 1) then false
  else if (x.op = 2 ∧ (x.rule < 0 ∨ x.rule ≥ rules)) ∨ (x.op ≠ 2 ∧ x.rule ≠ 0) then false
  else decide (x.op = 1) || (decide (x.s0 = 0) && (decide (x.s1 = 0) && (decide (x.s2 = 0) && decide (x.s3 = 0))))
theorem Made_ok (x : Node) (rules : Int) : PS.call bar T F.ref05_Made [.agg x.cells, .int .i64 rules] h = some (.bool (madeF x rules), h) := by
  rw [E.ref05_Made]
  simp only [C.ref05_Made]
  repeat' (simp [*, -List.getElem_cons_drop, madeF] <;> first | (simp only [kC_bool, kG_bool, brk_ite]; split <;> (rename_i hc; try simp only [decide_eq_true_eq, Bool.not_eq_true, Bool.not_eq_eq_eq_not, Bool.not_true, Bool.not_false, decide_eq_false_iff_not, Decidable.not_not] at hc)) | exact decide_eq_decide.2 Iff.rfl | skip)
end AM
/- The functions of the reference implementation of layer 5 on the order and the depth of nodes. -/
namespace AM
open Go
attribute [local simp] opsD_nil opsD_cons kG_true kG_false kO_some kO_none kR_some kR_none kS_normal kS_ret kS_exit kS_none kC_true kC_false kK_some exec_skip exec_reg exec_seq exec_cond exec_blk exec_loop exec_exit exec_ret exec_kp inBlk_normal inBlk_ret inBlk_exit inBlk_none endD_normal endD_ret endD_none
attribute [local simp] opD step wanted guardB lk putE Opd.ev evAll argEnv newO pushO getO setO keep D.cells D.one D.stb D.lvl D.lvl.lvlAll asB asI asArr asMap asStr asAgg ldD faD partD binD binI binS eqD eqL_cons eqL_nil ite_tf ite_bf eqSK unD stD putCells may nckD resD tupD frz frz.frzAll okD iaAD iaSD lenVD lenSD callDD callFn fills extD mxD mnD maxL minL
set_option maxRecDepth 10000
set_option maxHeartbeats 0
set_option linter.unusedSimpArgs false
set_option linter.unusedVariables false
variable {bar T : Nat} {h : Heap}
def kidsAt (ns : List Node) (i : Int) : List Int := if 0 ≤ i then ((ns[i.toNat]?).map Node.kids).getD [] else []
def exGo (f : Int → Int) : List Int → Int → Int
  | [], a => a
  | k :: ks, a => if k = a then (if f a = -2 then -2 else exGo f ks (f a)) else -2
def exprF (ns : List Node) : Nat → Int → Int
  | 0, _ => -2
  | n + 1, i => if i < 0 then -2 else exGo (exprF ns n) (kidsAt ns i).reverse (i - 1)
theorem exGo_lt {f : Int → Int} (hf : ∀ a, f a = -2 ∨ (-1 ≤ f a ∧ f a < a)) : ∀ (ks : List Int) (a : Int), -1 ≤ a → exGo f ks a = -2 ∨ (-1 ≤ exGo f ks a ∧ exGo f ks a ≤ a)
  | [], a, h => .inr ⟨h, Int.le_refl _⟩
  | k :: ks, a, h => by
    unfold exGo
    split
    · split
      · exact .inl rfl
      · rcases hf a with h1 | h1
        · contradiction
        · rcases exGo_lt hf ks (f a) h1.1 with h2 | h2
          · exact .inl h2
          · exact .inr ⟨h2.1, by omega⟩
    · exact .inl rfl
theorem exprF_lt (ns : List Node) : ∀ (n : Nat) (i : Int), exprF ns n i = -2 ∨ (-1 ≤ exprF ns n i ∧ exprF ns n i < i)
  | 0, i => .inl rfl
  | n + 1, i => by
    unfold exprF
    split
    · exact .inl rfl
    · rcases exGo_lt (exprF_lt ns n) (kidsAt ns i).reverse (i - 1) (by omega) with h | h
      · exact .inl h
      · exact .inr ⟨h.1, by omega⟩
theorem kidsAt_nat {ns : List Node} {i : Nat} (h : i < ns.length) : kidsAt ns i = ns[i].kids := by simp [kidsAt, h]

theorem Expression_lp {g : Gram} (hg : g.Ok) {i : Nat} (hi : i < g.nodes.length) {n : Nat} (hn : i ≤ n)
    (ih : ∀ (a : Int), a < n → a < g.nodes.length → -1 ≤ a → ∀ bar T h, PS.call bar T F.ref05_Expression [.agg g.cells, .int .i64 a] h = some (.int .i64 (exprF g.nodes n a), h)) :
    ∀ (j : Nat) (a : Int) (ρ : Env), j ≤ g.nodes[i].kids.length → -1 ≤ a → a < i → keep [1, 2, 5, 6] ρ = some [(1, .int .i64 i), (2, .ptr T 0 0 0), (5, .int .i64 a), (6, .int .i64 (j - 1 : Int))] →
    endD (T + 1) [.tmp 4] false (kS PA PS bar (T + 1) (inBlk 0 (PS.lp bar (T + 1) L.ref05_Expression_0 ρ ([.arr [g.cells]] :: h))) K.ref05_Expression_0) = some (.int .i64 (exGo (exprF g.nodes n) (g.nodes[i].kids.take j).reverse a), h) := by
  intro j
  induction j with
  | zero =>
    intro a ρ hj h1 h2 hk
    rw [P.ref05_Expression_0, hk]; simp only [B.ref05_Expression_0]
    repeat' (simp [*, -List.getElem_cons_drop, K.ref05_Expression_0, exGo] <;> first | (simp only [kC_bool, kG_bool, brk_ite]; split <;> (rename_i hc; try simp only [decide_eq_true_eq, Bool.not_eq_true, Bool.not_eq_eq_eq_not, Bool.not_true, Bool.not_false, decide_eq_false_iff_not, Decidable.not_not] at hc)) | exact decide_eq_decide.2 Iff.rfl | skip)
  | succ j jh =>
    intro a ρ hj h1 h2 hk
    have hx := hg.nodes _ (List.getElem_mem hi)
    have hl := hx.len
    have hll := hg.ln
    have e1 : IntKind.i64.wrap (((j + 1 : Nat) : Int) - 1 - 1) = (j : Int) - 1 := by rw [wrap_i64] <;> omega
    have hj' : j < g.nodes[i].kids.length := by omega
    have e2 : (g.nodes[i].kids.take (j + 1)).reverse = g.nodes[i].kids[j] :: (g.nodes[i].kids.take j).reverse := by
      rw [List.take_succ_eq_append_getElem hj']; simp
    have e3 : (((j + 1 : Nat) : Int) - 1) = (j : Int) := by omega
    have ha := ih a (by omega) (by omega) h1
    have hb := exprF_lt g.nodes n a
    have e4 : (0 : Int) ≤ ((j + 1 : Nat) : Int) - 1 := by omega
    rw [e2]; rw [P.ref05_Expression_0, hk]; simp only [B.ref05_Expression_0]
    rw [e3] at e1
    rw [e3]
    clear e2 e3 e4
    repeat' (simp [*, -List.getElem_cons_drop, inRange_nat, exGo] <;> first | (simp only [kC_bool, kG_bool, brk_ite]; split <;> (rename_i hc; try simp only [decide_eq_true_eq, Bool.not_eq_true, Bool.not_eq_eq_eq_not, Bool.not_true, Bool.not_false, decide_eq_false_iff_not, Decidable.not_not] at hc)) | exact decide_eq_decide.2 Iff.rfl | skip)
    refine jh _ _ ?_ ?_ ?_ ?_ <;> first | omega | simp
theorem Expression_ok {g : Gram} (hg : g.Ok) : ∀ (n : Nat) (a : Int), a < n → a < g.nodes.length → -1 ≤ a → ∀ bar T h, PS.call bar T F.ref05_Expression [.agg g.cells, .int .i64 a] h = some (.int .i64 (exprF g.nodes n a), h) := by
  intro n
  induction n with
  | zero =>
    intro a h1 h2 h3 bar T h
    rw [E.ref05_Expression]
    simp only [C.ref05_Expression]
    have e : a < 0 := by omega
    clear h1
    repeat' (simp [*, -List.getElem_cons_drop, exprF] <;> first | (simp only [kC_bool, kG_bool, brk_ite]; split <;> (rename_i hc; try simp only [decide_eq_true_eq, Bool.not_eq_true, Bool.not_eq_eq_eq_not, Bool.not_true, Bool.not_false, decide_eq_false_iff_not, Decidable.not_not] at hc)) | exact decide_eq_decide.2 Iff.rfl | skip)
  | succ n ih =>
    intro a h1 h2 h3 bar T h
    rw [E.ref05_Expression]
    simp only [C.ref05_Expression]
    by_cases e : a < 0
    · repeat' (simp [*, -List.getElem_cons_drop, exprF] <;> first | (simp only [kC_bool, kG_bool, brk_ite]; split <;> (rename_i hc; try simp only [decide_eq_true_eq, Bool.not_eq_true, Bool.not_eq_eq_eq_not, Bool.not_true, Bool.not_false, decide_eq_false_iff_not, Decidable.not_not] at hc)) | exact decide_eq_decide.2 Iff.rfl | skip)
    · obtain ⟨i, rfl⟩ := Int.eq_ofNat_of_zero_le (show 0 ≤ a by omega)
      have hi : i < g.nodes.length := by omega
      have hll := hg.ln
      have hx := (hg.nodes _ (List.getElem_mem hi)).len
      have e1 : IntKind.i64.wrap ((i : Int) - 1) = (i : Int) - 1 := by rw [wrap_i64] <;> omega
      have e2 : IntKind.i64.wrap ((g.nodes[i].kids.length : Int) - 1) = (g.nodes[i].kids.length : Int) - 1 := by rw [wrap_i64] <;> omega
      have hL := @Expression_lp (bar := bar) (T := T) (h := h) g hg i hi n (by omega) ih g.nodes[i].kids.length (i - 1) 
      rw [List.take_length] at hL
      simp only [exprF, kidsAt_nat hi, if_neg e]
      clear h1 h2 h3 ih
      repeat' (simp [*, -List.getElem_cons_drop, inRange_nat] <;> first | (simp only [kC_bool, kG_bool, brk_ite]; split <;> (rename_i hc; try simp only [decide_eq_true_eq, Bool.not_eq_true, Bool.not_eq_eq_eq_not, Bool.not_true, Bool.not_false, decide_eq_false_iff_not, Decidable.not_not] at hc)) | exact decide_eq_decide.2 Iff.rfl | skip)
      refine hL _ ?_ ?_ ?_ ?_ <;> first | omega | simp
/-! depth -/
def depthF (ns : List Node) : Nat → Int → Int
  | 0, _ => 1
  | m + 1, i => (kidsAt ns i).foldl (fun d k => max d (depthF ns m k)) 0 + 1
def KidsOk (ns : List Node) : Prop := ∀ x ∈ ns, ∀ k ∈ x.kids, 0 ≤ k ∧ k < ns.length
theorem foldl_le {f : Int → Int} {b : Int} (hf : ∀ k, 0 ≤ f k ∧ f k ≤ b) : ∀ (l : List Int) (d : Int), 0 ≤ d → d ≤ b → 0 ≤ l.foldl (fun d k => max d (f k)) d ∧ l.foldl (fun d k => max d (f k)) d ≤ b
  | [], d, h0, h1 => ⟨h0, h1⟩
  | k :: l, d, h0, h1 => by
    have := hf k
    rw [List.foldl_cons]
    exact foldl_le hf l _ (by omega) (by omega)
theorem depthF_le (ns : List Node) : ∀ (m : Nat) (i : Int), 0 ≤ depthF ns m i ∧ depthF ns m i ≤ m + 1
  | 0, i => by simp [depthF]
  | m + 1, i => by
    have := foldl_le (depthF_le ns m) (kidsAt ns i) 0 (by omega) (by omega)
    simp only [depthF]; omega
theorem Depth_lp {g : Gram} (hg : g.Ok) (hk0 : KidsOk g.nodes) {i : Nat} (hi : i < g.nodes.length) {m : Nat} (hm : m ≤ 1000)
    (ih : ∀ (k : Int), 0 ≤ k → k < g.nodes.length → ∀ bar T h, PS.call bar T F.ref05_Depth [.agg g.cells, .int .i64 k, .int .i64 m] h = some (.int .i64 (depthF g.nodes m k), h)) :
    ∀ (j : Nat) (d : Int) (ρ : Env), 0 ≤ d → d ≤ m + 1 → keep [1, 2, 3, 7, 8] ρ = some [(1, .int .i64 i), (2, .int .i64 (m + 1)), (3, .ptr T 0 0 0), (7, .int .i64 d), (8, .int .i64 j)] →
    endD (T + 1) [.tmp 6] false (kS PA PS bar (T + 1) (inBlk 0 (PS.lp bar (T + 1) L.ref05_Depth_0 ρ ([.arr [g.cells]] :: h))) K.ref05_Depth_0) = some (.int .i64 ((g.nodes[i].kids.drop j).foldl (fun d k => max d (depthF g.nodes m k)) d + 1), h) := by
  refine down g.nodes[i].kids.length fun j jh d ρ h0 h1 hk => ?_
  have hx := (hg.nodes _ (List.getElem_mem hi)).len
  by_cases e : j < g.nodes[i].kids.length
  · replace jh := jh e
    have e1 := wrap_succ e hx
    have hkk := hk0 _ (List.getElem_mem hi) _ (List.getElem_mem e)
    have ha := ih _ hkk.1 hkk.2
    have hb := depthF_le g.nodes m (g.nodes[i].kids[j])
    have e2 : IntKind.i64.wrap (m : Int) = m := by rw [wrap_i64] <;> omega
    have e3 : (0 : Int) < (m : Int) + 1 := by omega
    have e4 : (if d < depthF g.nodes m (g.nodes[i].kids[j]) then depthF g.nodes m (g.nodes[i].kids[j]) else d) = max d (depthF g.nodes m (g.nodes[i].kids[j])) := by split <;> omega
    rw [drop_at e]; rw [P.ref05_Depth_0, hk]; simp only [B.ref05_Depth_0]
    repeat' (simp [*, -List.getElem_cons_drop, inRange_nat] <;> first | (simp only [kC_bool, kG_bool, brk_ite]; split <;> (rename_i hc; try simp only [decide_eq_true_eq, Bool.not_eq_true, Bool.not_eq_eq_eq_not, Bool.not_true, Bool.not_false, decide_eq_false_iff_not, Decidable.not_not] at hc)) | exact decide_eq_decide.2 Iff.rfl | skip)
    refine jh _ _ ?_ ?_ ?_ <;> first | omega | simp
  · have e1 : IntKind.i64.wrap (d + 1) = d + 1 := by rw [wrap_i64] <;> omega
    rw [drop_end e]; rw [P.ref05_Depth_0, hk]; simp only [B.ref05_Depth_0]
    repeat' (simp [*, -List.getElem_cons_drop, K.ref05_Depth_0, inRange_nat] <;> first | (simp only [kC_bool, kG_bool, brk_ite]; split <;> (rename_i hc; try simp only [decide_eq_true_eq, Bool.not_eq_true, Bool.not_eq_eq_eq_not, Bool.not_true, Bool.not_false, decide_eq_false_iff_not, Decidable.not_not] at hc)) | exact decide_eq_decide.2 Iff.rfl | skip)
theorem Depth_ok {g : Gram} (hg : g.Ok) (hk0 : KidsOk g.nodes) : ∀ (m : Nat), m ≤ 1000 → ∀ (k : Int), 0 ≤ k → k < g.nodes.length → ∀ bar T h, PS.call bar T F.ref05_Depth [.agg g.cells, .int .i64 k, .int .i64 m] h = some (.int .i64 (depthF g.nodes m k), h) := by
  intro m
  induction m with
  | zero =>
    intro hm k h1 h2 bar T h
    obtain ⟨i, rfl⟩ := Int.eq_ofNat_of_zero_le h1
    have hi : i < g.nodes.length := by omega
    rw [E.ref05_Depth]
    simp only [C.ref05_Depth]
    clear h1 h2
    have e1 : IntKind.i64.wrap (0 + 1) = 1 := by rw [wrap_i64] <;> omega
    repeat' (simp [*, -List.getElem_cons_drop] <;> first | (simp only [kC_bool, kG_bool, brk_ite]; split <;> (rename_i hc; try simp only [decide_eq_true_eq, Bool.not_eq_true, Bool.not_eq_eq_eq_not, Bool.not_true, Bool.not_false, decide_eq_false_iff_not, Decidable.not_not] at hc)) | exact decide_eq_decide.2 Iff.rfl | skip)
    rw [P.ref05_Depth_0]; simp only [B.ref05_Depth_0]
    repeat' (simp [*, -List.getElem_cons_drop, inRange_nat, K.ref05_Depth_0, depthF] <;> first | (simp only [kC_bool, kG_bool, brk_ite]; split <;> (rename_i hc; try simp only [decide_eq_true_eq, Bool.not_eq_true, Bool.not_eq_eq_eq_not, Bool.not_true, Bool.not_false, decide_eq_false_iff_not, Decidable.not_not] at hc)) | exact decide_eq_decide.2 Iff.rfl | skip)
  | succ m ih =>
    intro hm k h1 h2 bar T h
    replace ih := ih (by omega)
    obtain ⟨i, rfl⟩ := Int.eq_ofNat_of_zero_le h1
    have hi : i < g.nodes.length := by omega
    rw [E.ref05_Depth]
    simp only [C.ref05_Depth]
    clear h1 h2
    simp only [depthF, kidsAt_nat hi]
    have hL := @Depth_lp bar T h g hg hk0 i hi m (by omega) ih 0 0
    repeat' (simp [*, -List.getElem_cons_drop, inRange_nat] <;> first | (simp only [kC_bool, kG_bool, brk_ite]; split <;> (rename_i hc; try simp only [decide_eq_true_eq, Bool.not_eq_true, Bool.not_eq_eq_eq_not, Bool.not_true, Bool.not_false, decide_eq_false_iff_not, Decidable.not_not] at hc)) | exact decide_eq_decide.2 Iff.rfl | skip)
    refine Eq.trans (hL _ ?_ ?_ ?_) ?_ <;> first | omega | simp

/-! the order -/
def ordLast (n : Int) (b : Int) : Bool := decide (b = n - 1)
def ordGo (ns : List Node) : List Rule → Int → Bool
  | [], b => decide (b = (ns.length : Int) - 1)
  | r :: l, b => if r.root ≤ b ∨ r.root ≥ ns.length ∨ exprF ns (ns.length + 1) r.root ≠ b then false else ordGo ns l r.root
def orderedF (g : Gram) : Bool := ordGo g.nodes g.rules (-1)
theorem Ordered_lp {g : Gram} (hg : g.Ok) : ∀ (i : Nat) (b : Int) (ρ : Env), -1 ≤ b → keep [1, 3, 4] ρ = some [(1, .ptr T 0 0 0), (3, .int .i64 b), (4, .int .i64 i)] →
    endD (T + 1) [.tmp 2] false (kS PA PS bar (T + 1) (inBlk 0 (PS.lp bar (T + 1) L.ref05_Ordered_0 ρ ([.arr [g.cells]] :: h))) K.ref05_Ordered_0) = some (.bool (ordGo g.nodes (g.rules.drop i) b), h) := by
  refine down g.rules.length fun i ih b ρ hb hk => ?_
  have hll := hg.ln
  by_cases e : i < g.rules.length
  · replace ih := ih e
    have e1 := wrap_succ e hg.lr
    rw [drop_at e]; rw [P.ref05_Ordered_0, hk]; simp only [B.ref05_Ordered_0]
    by_cases c1 : g.rules[i].root ≤ b
    · repeat' (simp [*, -List.getElem_cons_drop, inRange_nat, ordGo] <;> first | (simp only [kC_bool, kG_bool, brk_ite]; split <;> (rename_i hc; try simp only [decide_eq_true_eq, Bool.not_eq_true, Bool.not_eq_eq_eq_not, Bool.not_true, Bool.not_false, decide_eq_false_iff_not, Decidable.not_not] at hc)) | exact decide_eq_decide.2 Iff.rfl | skip)
    by_cases c2 : (g.nodes.length : Int) ≤ g.rules[i].root
    · repeat' (simp [*, -List.getElem_cons_drop, inRange_nat, ordGo] <;> first | (simp only [kC_bool, kG_bool, brk_ite]; split <;> (rename_i hc; try simp only [decide_eq_true_eq, Bool.not_eq_true, Bool.not_eq_eq_eq_not, Bool.not_true, Bool.not_false, decide_eq_false_iff_not, Decidable.not_not] at hc)) | exact decide_eq_decide.2 Iff.rfl | skip)
    have hx := Expression_ok hg (g.nodes.length + 1) g.rules[i].root (by omega) (by omega) (by omega)
    repeat' (simp [*, -List.getElem_cons_drop, inRange_nat, ordGo] <;> first | (simp only [kC_bool, kG_bool, brk_ite]; split <;> (rename_i hc; try simp only [decide_eq_true_eq, Bool.not_eq_true, Bool.not_eq_eq_eq_not, Bool.not_true, Bool.not_false, decide_eq_false_iff_not, Decidable.not_not] at hc)) | exact decide_eq_decide.2 Iff.rfl | skip)
    all_goals (refine ih _ _ ?_ ?_ <;> first | omega | simp)
  · have e2 : IntKind.i64.wrap ((g.nodes.length : Int) - 1) = (g.nodes.length : Int) - 1 := by rw [wrap_i64] <;> omega
    rw [drop_end e]; rw [P.ref05_Ordered_0, hk]; simp only [B.ref05_Ordered_0]
    repeat' (simp [*, -List.getElem_cons_drop, K.ref05_Ordered_0, ordGo] <;> first | (simp only [kC_bool, kG_bool, brk_ite]; split <;> (rename_i hc; try simp only [decide_eq_true_eq, Bool.not_eq_true, Bool.not_eq_eq_eq_not, Bool.not_true, Bool.not_false, decide_eq_false_iff_not, Decidable.not_not] at hc)) | exact decide_eq_decide.2 Iff.rfl | skip)
theorem Ordered_ok {g : Gram} (hg : g.Ok) : PS.call bar T F.ref05_Ordered [.agg g.cells] h = some (.bool (orderedF g), h) := by
  rw [E.ref05_Ordered]
  simp only [C.ref05_Ordered]
  repeat' (simp [*, -List.getElem_cons_drop] <;> first | (simp only [kC_bool, kG_bool, brk_ite]; split <;> (rename_i hc; try simp only [decide_eq_true_eq, Bool.not_eq_true, Bool.not_eq_eq_eq_not, Bool.not_true, Bool.not_false, decide_eq_false_iff_not, Decidable.not_not] at hc)) | exact decide_eq_decide.2 Iff.rfl | skip)
  refine Eq.trans (Ordered_lp hg 0 (-1) _ ?_ ?_) ?_ <;> first | omega | simp [orderedF]
end AM
/- The check of a grammar by the reference implementation of layer 5. -/
namespace AM
open Go
attribute [local simp] opsD_nil opsD_cons kG_true kG_false kO_some kO_none kR_some kR_none kS_normal kS_ret kS_exit kS_none kC_true kC_false kK_some exec_skip exec_reg exec_seq exec_cond exec_blk exec_loop exec_exit exec_ret exec_kp inBlk_normal inBlk_ret inBlk_exit inBlk_none endD_normal endD_ret endD_none
attribute [local simp] opD step wanted guardB lk putE Opd.ev evAll argEnv newO pushO getO setO keep D.cells D.one D.stb D.lvl D.lvl.lvlAll asB asI asArr asMap asStr asAgg ldD faD partD binD binI binS eqD eqL_cons eqL_nil ite_tf ite_bf eqSK unD stD putCells may nckD resD tupD frz frz.frzAll okD iaAD iaSD lenVD lenSD callDD callFn fills extD mxD mnD maxL minL
set_option maxRecDepth 10000
set_option maxHeartbeats 0
set_option linter.unusedSimpArgs false
set_option linter.unusedVariables false
variable {bar T : Nat} {h : Heap}
/-! nodes in post-order have kids ahead of them -/
def Behind (ns : List Node) (j : Int) : Prop := ∀ k ∈ kidsAt ns j, 0 ≤ k ∧ k < j
theorem exGo_cov {ns : List Node} {f : Int → Int} (hf : ∀ a, f a ≠ -2 → 0 ≤ a ∧ f a < a ∧ ∀ j, f a < j → j ≤ a → Behind ns j) :
    ∀ (ks : List Int) (a : Int), exGo f ks a ≠ -2 → (∀ k ∈ ks, 0 ≤ k ∧ k ≤ a) ∧ ∀ j, exGo f ks a < j → j ≤ a → Behind ns j
  | [], a, h => ⟨by simp, fun j h1 h2 => by simp only [exGo] at h1; omega⟩
  | k :: ks, a, h => by
    unfold exGo at h ⊢
    split at h
    · rename_i hk
      split at h
      · exact absurd rfl h
      · rename_i hn
        rw [if_pos hk, if_neg hn]
        obtain ⟨h1, h2, h3⟩ := hf a hn
        obtain ⟨h4, h5⟩ := exGo_cov hf ks (f a) h
        refine ⟨fun q hq => ?_, fun j g1 g2 => ?_⟩
        · rcases List.mem_cons.1 hq with rfl | hq
          · omega
          · have := h4 q hq; omega
        · rcases Int.lt_or_le (f a) j with g | g
          · exact h3 j g g2
          · exact h5 j g1 g
    · exact absurd rfl h
theorem exprF_cov (ns : List Node) : ∀ (n : Nat) (i : Int), exprF ns n i ≠ -2 → 0 ≤ i ∧ exprF ns n i < i ∧ ∀ j, exprF ns n i < j → j ≤ i → Behind ns j
  | 0, i, h => absurd rfl h
  | n + 1, i, h => by
    have h0 : ¬ i < 0 := fun hi => h (by simp [exprF, hi])
    have hlt := exprF_lt ns (n + 1) i
    simp only [exprF, if_neg h0] at h hlt ⊢
    obtain ⟨h4, h5⟩ := exGo_cov (exprF_cov ns n) _ _ h
    refine ⟨by omega, by omega, fun j g1 g2 => ?_⟩
    rcases Int.lt_or_le j i with g | g
    · exact h5 j g1 (by omega)
    · have : j = i := by omega
      subst this
      intro k hk
      have := h4 k (by simpa using hk)
      omega
theorem ordGo_cov {ns : List Node} : ∀ {l : List Rule} {b : Int}, ordGo ns l b = true → -1 ≤ b → (∀ j, 0 ≤ j → j ≤ b → Behind ns j) → ∀ j : Int, 0 ≤ j → j < ns.length → Behind ns j
  | [], b, h, hm, hb => by
    intro j h1 h2
    simp only [ordGo, decide_eq_true_eq] at h
    exact hb j h1 (by omega)
  | r :: l, b, h, hm, hb => by
    simp only [ordGo] at h
    split at h
    · cases h
    · rename_i hq
      simp only [not_or, ne_eq, Decidable.not_not] at hq
      obtain ⟨h1, h2, h3⟩ := hq
      have hne : exprF ns (ns.length + 1) r.root ≠ -2 := by omega
      refine ordGo_cov h (by omega) fun j g1 g2 => ?_
      rcases Int.lt_or_le b j with g | g
      · exact (exprF_cov ns _ _ hne).2.2 j (by omega) g2
      · exact hb j g1 g
theorem ordered_behind {g : Gram} (h : orderedF g = true) : ∀ j : Int, 0 ≤ j → j < g.nodes.length → Behind g.nodes j := ordGo_cov h (by omega) fun j h1 h2 => by omega
theorem ordered_kids {g : Gram} (h : orderedF g = true) : KidsOk g.nodes := by
  intro x hx k hk
  obtain ⟨i, hi, rfl⟩ := List.mem_iff_getElem.1 hx
  have := ordered_behind h i (by omega) (by omega) k (by rw [kidsAt_nat hi]; exact hk)
  omega

/-! the check -/
def anyL {α : Type} (p : α → Bool) : List α → Bool
  | [] => false
  | x :: l => p x || anyL p l
@[simp] theorem anyL_nil {α : Type} (p : α → Bool) : anyL p [] = false := by simp [anyL]
@[simp] theorem anyL_cons {α : Type} (p : α → Bool) (x : α) (l : List α) : anyL p (x :: l) = (p x || anyL p l) := by simp [anyL]
def wRules : List UInt8 := [114, 117, 108, 101, 115]
def wNodes : List UInt8 := [110, 111, 100, 101, 115]
def chkDepth (ns : List Node) : List Node → Nat → List UInt8 × Int × Int
  | [], _ => ([], 0, 0)
  | _ :: l, i => if depthF ns 205 i > 200 then (wNodes, 5, i) else chkDepth ns l (i + 1)
def chkOrd (g : Gram) : List UInt8 × Int × Int := if orderedF g = true then chkDepth g.nodes g.nodes 0 else ([], 10, 0)
def chkNodes (g : Gram) : List Node → Nat → List UInt8 × Int × Int
  | [], _ => chkOrd g
  | x :: l, i => if madeF x g.rules.length = true then chkNodes g l (i + 1) else (wNodes, 10, i)
def chkRules (g : Gram) : List Rule → Nat → List UInt8 × Int × Int
  | [], _ => chkNodes g g.nodes 0
  | r :: l, i => if nameF r.name = false then (wRules, 10, i) else if anyL (fun q => decide (q.name = r.name)) (g.rules.take i) = true then (wRules, 10, i) else chkRules g l (i + 1)
def checkF (g : Gram) : List UInt8 × Int × Int :=
  if (g.rules.length : Int) > 1000 ∨ (g.nodes.length : Int) > 10000 then ([], 4, 0) else if (g.rules.length : Int) = 0 then (wRules, 10, 0) else chkRules g g.rules 0
def tri (r : List UInt8 × Int × Int) : D := .tup [.str r.1, .int .i64 r.2.1, .int .i64 r.2.2]
abbrev checkRes : List ARes := [.tmp 2, .tmp 3, .tmp 4]

theorem Check_lp3 {g : Gram} (hg : g.Ok) (ho : KidsOk g.nodes) : ∀ (i : Nat) (ρ : Env), keep [1, 8] ρ = some [(1, .ptr T 0 0 0), (8, .int .i64 i)] →
    endD (T + 1) checkRes false (kS PA PS bar (T + 1) (inBlk 6 (PS.lp bar (T + 1) L.ref05_Check_3 ρ ([.arr [g.cells]] :: h))) K.ref05_Check_0) = some (tri (chkDepth g.nodes (g.nodes.drop i) i), h) := by
  refine down g.nodes.length fun i ih ρ hk => ?_
  by_cases e : i < g.nodes.length
  · replace ih := ih e
    have e1 := wrap_succ e hg.ln
    have hd := Depth_ok hg ho 205 (by omega) i (by omega) (by omega)
    rw [show ((205 : Nat) : Int) = 205 from rfl] at hd
    rw [drop_at e]; rw [P.ref05_Check_3, hk]; simp only [B.ref05_Check_3]
    repeat' (simp [*, -List.getElem_cons_drop, chkDepth, tri, wNodes, tupD] <;> first | (simp only [kC_bool, kG_bool, brk_ite]; split <;> (rename_i hc; try simp only [decide_eq_true_eq, Bool.not_eq_true, Bool.not_eq_eq_eq_not, Bool.not_true, Bool.not_false, decide_eq_false_iff_not, Decidable.not_not] at hc)) | exact decide_eq_decide.2 Iff.rfl | skip)
  · rw [drop_end e]; rw [P.ref05_Check_3, hk]; simp only [B.ref05_Check_3]
    repeat' (simp [*, -List.getElem_cons_drop, K.ref05_Check_0, chkDepth, tri, tupD] <;> first | (simp only [kC_bool, kG_bool, brk_ite]; split <;> (rename_i hc; try simp only [decide_eq_true_eq, Bool.not_eq_true, Bool.not_eq_eq_eq_not, Bool.not_true, Bool.not_false, decide_eq_false_iff_not, Decidable.not_not] at hc)) | exact decide_eq_decide.2 Iff.rfl | skip)
theorem Check_lp2 {g : Gram} (hg : g.Ok) : ∀ (i : Nat) (ρ : Env), keep [1, 7] ρ = some [(1, .ptr T 0 0 0), (7, .int .i64 i)] →
    endD (T + 1) checkRes false (kS PA PS bar (T + 1) (inBlk 4 (PS.lp bar (T + 1) L.ref05_Check_2 ρ ([.arr [g.cells]] :: h))) K.ref05_Check_1) = some (tri (chkNodes g (g.nodes.drop i) i), h) := by
  refine down g.nodes.length fun i ih ρ hk => ?_
  by_cases e : i < g.nodes.length
  · replace ih := ih e
    have e1 := wrap_succ e hg.ln
    rw [drop_at e]; rw [P.ref05_Check_2, hk]; simp only [B.ref05_Check_2]
    repeat' (simp [*, -List.getElem_cons_drop, chkNodes, tri, wNodes, tupD, inRange_nat, Made_ok] <;> first | (simp only [kC_bool, kG_bool, brk_ite]; split <;> (rename_i hc; try simp only [decide_eq_true_eq, Bool.not_eq_true, Bool.not_eq_eq_eq_not, Bool.not_true, Bool.not_false, decide_eq_false_iff_not, Decidable.not_not] at hc)) | exact decide_eq_decide.2 Iff.rfl | skip)
  · rw [drop_end e]; rw [P.ref05_Check_2, hk]; simp only [B.ref05_Check_2]
    cases ho : orderedF g with
    | false => repeat' (simp [*, -List.getElem_cons_drop, K.ref05_Check_1, chkNodes, chkOrd, tri, tupD, Ordered_ok hg] <;> first | (simp only [kC_bool, kG_bool, brk_ite]; split <;> (rename_i hc; try simp only [decide_eq_true_eq, Bool.not_eq_true, Bool.not_eq_eq_eq_not, Bool.not_true, Bool.not_false, decide_eq_false_iff_not, Decidable.not_not] at hc)) | exact decide_eq_decide.2 Iff.rfl | skip)
    | true =>
      have hL := @Check_lp3 bar T h g hg (ordered_kids ho) 0
      rw [List.drop_zero] at hL
      repeat' (simp [*, -List.getElem_cons_drop, K.ref05_Check_1, chkNodes, chkOrd, tri, tupD, Ordered_ok hg] <;> first | (simp only [kC_bool, kG_bool, brk_ite]; split <;> (rename_i hc; try simp only [decide_eq_true_eq, Bool.not_eq_true, Bool.not_eq_eq_eq_not, Bool.not_true, Bool.not_false, decide_eq_false_iff_not, Decidable.not_not] at hc)) | exact decide_eq_decide.2 Iff.rfl | skip)
theorem Check_lp0 {g : Gram} (hg : g.Ok) {i : Nat} (hi : i < g.rules.length) {hp : Heap} : ∀ (k : Nat) (ρ : Env), keep [1, 5, 6] ρ = some [(1, .ptr T 0 0 0), (5, .int .i64 i), (6, .int .i64 k)] →
    Ends (PS.lp bar (T + 1) L.ref05_Check_0 ρ ([.arr [g.cells]] :: h)) fun e ρ' h' => h' = [.arr [g.cells]] :: h ∧ (if anyL (fun q => decide (q.name = g.rules[i].name)) ((g.rules.take i).drop k) = true then e = .ret ∧ lk ρ' 2 = some (.str wRules) ∧ lk ρ' 3 = some (.int .i64 10) ∧ lk ρ' 4 = some (.int .i64 i) else e = .exit 2 ∧ lk ρ' 1 = some (.ptr T 0 0 0) ∧ lk ρ' 5 = some (.int .i64 i)) := by
  have hlen : (g.rules.take i).length = i := by simp; omega
  refine down (g.rules.take i).length fun k ih ρ hk => ?_
  by_cases e : k < (g.rules.take i).length
  · replace ih := ih e
    have e1 := wrap_succ e (by have := hg.lr; omega)
    have e3 : k < i := by omega
    have e4 : k < g.rules.length := by omega
    have e2 : (g.rules.take i).drop k = g.rules[k] :: (g.rules.take i).drop (k + 1) := by rw [drop_at e]; simp
    rw [e2]; rw [P.ref05_Check_0, hk]; simp only [B.ref05_Check_0]
    clear e2 e
    repeat' (simp [*, -List.getElem_cons_drop, inRange_nat, wRules] <;> first | (simp only [kC_bool, kG_bool, brk_ite]; split <;> (rename_i hc; try simp only [decide_eq_true_eq, Bool.not_eq_true, Bool.not_eq_eq_eq_not, Bool.not_true, Bool.not_false, decide_eq_false_iff_not, Decidable.not_not] at hc)) | exact decide_eq_decide.2 Iff.rfl | skip)
    exact ih _ (by simp)
  · rw [drop_end e]; rw [P.ref05_Check_0, hk]; simp only [B.ref05_Check_0]
    have e3 : ¬ k < i := by omega
    clear e
    repeat' (simp [*, -List.getElem_cons_drop] <;> first | (simp only [kC_bool, kG_bool, brk_ite]; split <;> (rename_i hc; try simp only [decide_eq_true_eq, Bool.not_eq_true, Bool.not_eq_eq_eq_not, Bool.not_true, Bool.not_false, decide_eq_false_iff_not, Decidable.not_not] at hc)) | exact decide_eq_decide.2 Iff.rfl | skip)

theorem Check_lp1 {g : Gram} (hg : g.Ok) : ∀ (i : Nat) (ρ : Env), keep [1, 5] ρ = some [(1, .ptr T 0 0 0), (5, .int .i64 i)] →
    endD (T + 1) checkRes false (kS PA PS bar (T + 1) (inBlk 0 (PS.lp bar (T + 1) L.ref05_Check_1 ρ ([.arr [g.cells]] :: h))) K.ref05_Check_2) = some (tri (chkRules g (g.rules.drop i) i), h) := by
  refine down g.rules.length fun i ih ρ hk => ?_
  by_cases e : i < g.rules.length
  · replace ih := ih e
    have e1 := wrap_succ e hg.lr
    have hn := (hg.rules _ (List.getElem_mem e)).2
    obtain ⟨x, ρ1, h1, hx, hq⟩ := @Check_lp0 bar T h g hg i e [] 0 [(6, .int .i64 0), (1, .ptr T 0 0 0), (5, .int .i64 i)] (by simp)
    obtain ⟨rfl, hq⟩ := hq
    rw [List.drop_zero] at hq
    rw [drop_at e]; rw [P.ref05_Check_1, hk]; simp only [B.ref05_Check_1]
    cases c1 : nameF g.rules[i].name with
    | false => repeat' (simp [*, -List.getElem_cons_drop, chkRules, inRange_nat, Name_ok hn, tri, tupD, wRules] <;> first | (simp only [kC_bool, kG_bool, brk_ite]; split <;> (rename_i hc; try simp only [decide_eq_true_eq, Bool.not_eq_true, Bool.not_eq_eq_eq_not, Bool.not_true, Bool.not_false, decide_eq_false_iff_not, Decidable.not_not] at hc)) | exact decide_eq_decide.2 Iff.rfl | skip)
    | true =>
      by_cases c2 : anyL (fun q => decide (q.name = g.rules[i].name)) (g.rules.take i) = true
      · rw [if_pos c2] at hq
        obtain ⟨rfl, q1, q2, q3⟩ := hq
        repeat' (simp [*, -List.getElem_cons_drop, chkRules, inRange_nat, Name_ok hn, tri, tupD, wRules] <;> first | (simp only [kC_bool, kG_bool, brk_ite]; split <;> (rename_i hc; try simp only [decide_eq_true_eq, Bool.not_eq_true, Bool.not_eq_eq_eq_not, Bool.not_true, Bool.not_false, decide_eq_false_iff_not, Decidable.not_not] at hc)) | exact decide_eq_decide.2 Iff.rfl | skip)
      · rw [if_neg c2] at hq
        obtain ⟨rfl, q1, q2⟩ := hq
        repeat' (simp [*, -List.getElem_cons_drop, chkRules, inRange_nat, Name_ok hn, tri, tupD, wRules] <;> first | (simp only [kC_bool, kG_bool, brk_ite]; split <;> (rename_i hc; try simp only [decide_eq_true_eq, Bool.not_eq_true, Bool.not_eq_eq_eq_not, Bool.not_true, Bool.not_false, decide_eq_false_iff_not, Decidable.not_not] at hc)) | exact decide_eq_decide.2 Iff.rfl | skip)
  · rw [drop_end e]; rw [P.ref05_Check_1, hk]; simp only [B.ref05_Check_1]
    have hL := @Check_lp2 bar T h g hg 0
    rw [List.drop_zero] at hL
    repeat' (simp [*, -List.getElem_cons_drop, K.ref05_Check_2, chkRules] <;> first | (simp only [kC_bool, kG_bool, brk_ite]; split <;> (rename_i hc; try simp only [decide_eq_true_eq, Bool.not_eq_true, Bool.not_eq_eq_eq_not, Bool.not_true, Bool.not_false, decide_eq_false_iff_not, Decidable.not_not] at hc)) | exact decide_eq_decide.2 Iff.rfl | skip)
theorem Check_ok {g : Gram} (hg : g.Ok) : PS.call bar T F.ref05_Check [.agg g.cells] h = some (tri (checkF g), h) := by
  rw [E.ref05_Check]
  simp only [C.ref05_Check]
  have hL := @Check_lp1 bar T h g hg 0
  rw [List.drop_zero] at hL
  repeat' (simp [*, -List.getElem_cons_drop, checkF, tri, tupD, wRules] <;> first | (simp only [kC_bool, kG_bool, brk_ite]; split <;> (rename_i hc; try simp only [decide_eq_true_eq, Bool.not_eq_true, Bool.not_eq_eq_eq_not, Bool.not_true, Bool.not_false, decide_eq_false_iff_not, Decidable.not_not] at hc)) | exact decide_eq_decide.2 Iff.rfl | skip)
def validF (g : Gram) : Bool := decide ((checkF g).2.1 = 0)
theorem Valid_ok {g : Gram} (hg : g.Ok) : PS.call bar T F.ref05_Valid [.agg g.cells] h = some (.bool (validF g), h) := by
  rw [E.ref05_Valid]
  simp only [C.ref05_Valid]
  repeat' (simp [*, -List.getElem_cons_drop, Check_ok hg, tri, validF] <;> first | (simp only [kC_bool, kG_bool, brk_ite]; split <;> (rename_i hc; try simp only [decide_eq_true_eq, Bool.not_eq_true, Bool.not_eq_eq_eq_not, Bool.not_true, Bool.not_false, decide_eq_false_iff_not, Decidable.not_not] at hc)) | exact decide_eq_decide.2 Iff.rfl | skip)
def smallF (g : Gram) : Bool := fewF g && validF g
theorem Small_ok {g : Gram} (hg : g.Ok) : PS.call bar T F.ref05_Small [.agg g.cells] h = some (.bool (smallF g), h) := by
  rw [E.ref05_Small]
  simp only [C.ref05_Small]
  repeat' (simp [*, -List.getElem_cons_drop, Few_ok hg, Valid_ok hg, smallF] <;> first | (simp only [kC_bool, kG_bool, brk_ite]; split <;> (rename_i hc; try simp only [decide_eq_true_eq, Bool.not_eq_true, Bool.not_eq_eq_eq_not, Bool.not_true, Bool.not_false, decide_eq_false_iff_not, Decidable.not_not] at hc)) | exact decide_eq_decide.2 Iff.rfl | skip)
theorem madeF_facts {n : Node} {m : Int} (h : madeF n m = true) : 0 ≤ n.op ∧ n.op ≤ 9 ∧ (n.op = 2 → 0 ≤ n.rule ∧ n.rule < m) ∧ (5 ≤ n.op → n.kids.length = 1) := by
  unfold madeF at h
  split at h
  · cases h
  · split at h
    · cases h
    · split at h
      · cases h
      · refine ⟨by omega, by omega, fun h2 => by omega, fun h5 => by omega⟩
end AM
/- Derivations: what the functions of package ford that check steps compute. -/
namespace AM
open Go
attribute [local simp] opsD_nil opsD_cons kG_true kG_false kO_some kO_none kR_some kR_none kS_normal kS_ret kS_exit kS_none kC_true kC_false kK_some exec_skip exec_reg exec_seq exec_cond exec_blk exec_loop exec_exit exec_ret exec_kp inBlk_normal inBlk_ret inBlk_exit inBlk_none endD_normal endD_ret endD_none
attribute [local simp] opD step wanted guardB lk putE Opd.ev evAll argEnv newO pushO getO setO keep D.cells D.one D.stb D.lvl D.lvl.lvlAll asB asI asArr asMap asStr asAgg ldD faD partD binD binI binS eqD eqL_cons eqL_nil ite_tf ite_bf eqSK unD stD putCells may nckD resD tupD frz frz.frzAll okD iaAD iaSD lenVD lenSD callDD callFn fills extD mxD mnD maxL minL
set_option maxRecDepth 10000
set_option maxHeartbeats 0
set_option linter.unusedSimpArgs false
set_option linter.unusedVariables false
variable {bar T : Nat} {h : Heap}
structure Stp where
  node : Int
  rest : Bool
  at_ : Int
  end_ : Int
  kids : List Int
  deriving DecidableEq
abbrev Stp.cells (s : Stp) : List D := [.int .i64 s.node, .bool s.rest, .int .i64 s.at_, .int .i64 s.end_, ints s.kids]
structure Stp.Ok (s : Stp) : Prop where
  node : -9223372036854775808 ≤ s.node ∧ s.node ≤ 9223372036854775807
  at_ : -9223372036854775808 ≤ s.at_ ∧ s.at_ ≤ 9223372036854775807
  end_ : -9223372036854775808 ≤ s.end_ ∧ s.end_ ≤ 9223372036854775807
  len : s.kids.length ≤ 140737488355327
/-- What a step is about. -/
structure Clm where
  node : Int
  rest : Bool
  at_ : Int
  deriving DecidableEq
abbrev Clm.cells (c : Clm) : List D := [.int .i64 c.node, .bool c.rest, .int .i64 c.at_]
def Stp.about (s : Stp) : Clm := ⟨s.node, s.rest, s.at_⟩
def Clm.is (a b : Clm) : Bool := decide (a.node = b.node) && (decide (a.rest = b.rest) && decide (a.at_ = b.at_))
/-- Grammar, input, steps. -/
abbrev chk (g : Gram) (x : List UInt8) (l : List Stp) : List D := [.sl (g.rules.map Rule.cells), .sl (g.nodes.map Node.cells), .str x, .sl (l.map Stp.cells)]
def stp0 : Stp := ⟨0, false, 0, 0, []⟩
def stpAt (l : List Stp) (k : Int) : Stp := (l[k.toNat]?).getD stp0

theorem about_ok (hb : bar ≤ T) (s : Stp) : PS.call bar T F.ford_Step_about [.agg s.cells] h = some (.agg s.about.cells, h) := by
  rw [E.ford_Step_about]
  simp only [C.ford_Step_about]
  repeat' (simp [*, -List.getElem_cons_drop, Stp.about, tupD] <;> first | (simp only [kC_bool, kG_bool, brk_ite]; split <;> (rename_i hc; try simp only [decide_eq_true_eq, Bool.not_eq_true, Bool.not_eq_eq_eq_not, Bool.not_true, Bool.not_false, decide_eq_false_iff_not, Decidable.not_not] at hc)) | exact decide_eq_decide.2 Iff.rfl | skip)

/-! searching -/
def idxF {α : Type} (p : α → Bool) : List α → Nat → Int
  | [], _ => -1
  | x :: l, i => if p x = true then i else idxF p l (i + 1)
theorem idxI_lp {f : FuncId} {cap : List D} {p : Int → Bool} (hf : ∀ bar fr k, PS.call bar (T + 1) f (.int .i64 k :: cap) (fr :: h) = some (.bool (p k), fr :: h)) {l : List Int} (hl : l.length ≤ 140737488355327) :
    ∀ (i : Nat) (ρ : Env), keep [0, 1, 7, 8] ρ = some [(0, ints l), (1, .fn (.func f) [] cap), (7, .int .i64 l.length), (8, .int .i64 i)] →
    endD (T + 1) [.tmp 4] false (kS PA PS bar (T + 1) (inBlk 0 (PS.lp bar (T + 1) L.slices_IndexFunc_int_int_0 ρ ([] :: h))) K.slices_IndexFunc_int_int_0) = some (.int .i64 (idxF p (l.drop i) i), h) := by
  refine down l.length fun i ih ρ hk => ?_
  by_cases e : i < l.length
  · replace ih := ih e
    have e1 := wrap_succ e hl
    rw [drop_at e]; rw [P.slices_IndexFunc_int_int_0, hk]; simp only [B.slices_IndexFunc_int_int_0]
    repeat' (simp [*, -List.getElem_cons_drop, idxF, inRange_nat] <;> first | (simp only [kC_bool, kG_bool, brk_ite]; split <;> (rename_i hc; try simp only [decide_eq_true_eq, Bool.not_eq_true, Bool.not_eq_eq_eq_not, Bool.not_true, Bool.not_false, decide_eq_false_iff_not, Decidable.not_not] at hc)) | exact decide_eq_decide.2 Iff.rfl | skip)
  · rw [drop_end e]; rw [P.slices_IndexFunc_int_int_0, hk]; simp only [B.slices_IndexFunc_int_int_0]
    repeat' (simp [*, -List.getElem_cons_drop, K.slices_IndexFunc_int_int_0, idxF] <;> first | (simp only [kC_bool, kG_bool, brk_ite]; split <;> (rename_i hc; try simp only [decide_eq_true_eq, Bool.not_eq_true, Bool.not_eq_eq_eq_not, Bool.not_true, Bool.not_false, decide_eq_false_iff_not, Decidable.not_not] at hc)) | exact decide_eq_decide.2 Iff.rfl | skip)
theorem idxI_ok {f : FuncId} {cap : List D} {p : Int → Bool} (hf : ∀ bar fr k, PS.call bar (T + 1) f (.int .i64 k :: cap) (fr :: h) = some (.bool (p k), fr :: h)) {l : List Int} (hl : l.length ≤ 140737488355327) :
    PS.call bar T F.slices_IndexFunc_int_int [ints l, .fn (.func f) [] cap] h = some (.int .i64 (idxF p l 0), h) := by
  rw [E.slices_IndexFunc_int_int]
  simp only [C.slices_IndexFunc_int_int]
  repeat' (simp [*, -List.getElem_cons_drop] <;> first | (simp only [kC_bool, kG_bool, brk_ite]; split <;> (rename_i hc; try simp only [decide_eq_true_eq, Bool.not_eq_true, Bool.not_eq_eq_eq_not, Bool.not_true, Bool.not_false, decide_eq_false_iff_not, Decidable.not_not] at hc)) | exact decide_eq_decide.2 Iff.rfl | skip)
  refine Eq.trans (idxI_lp hf hl 0 _ ?_) ?_ <;> simp
theorem idxF_any {α : Type} (p : α → Bool) : ∀ (l : List α) (i : Nat), (0 ≤ idxF p l i) ↔ anyL p l = true
  | [], i => by simp [idxF]
  | x :: l, i => by
    simp only [idxF, anyL_cons, Bool.or_eq_true]
    split
    · rename_i h; simp [h]
    · rename_i h; simp only [h, Bool.false_eq_true, false_or]; exact idxF_any p l (i + 1)
theorem contI_ok {f : FuncId} {cap : List D} {p : Int → Bool} (hf : ∀ bar fr fr' k, PS.call bar (T + 2) f (.int .i64 k :: cap) (fr :: fr' :: h) = some (.bool (p k), fr :: fr' :: h)) {l : List Int} (hl : l.length ≤ 140737488355327) :
    PS.call bar T F.slices_ContainsFunc_int_int [ints l, .fn (.func f) [] cap] h = some (.bool (anyL p l), h) := by
  rw [E.slices_ContainsFunc_int_int]
  simp only [C.slices_ContainsFunc_int_int]
  have hi : ∀ bar, _ := fun bar => @idxI_ok bar (T + 1) ([] :: h) f cap p (fun bar fr k => hf bar fr [] k) l hl
  have ha := idxF_any p l 0
  repeat' (simp [*, -List.getElem_cons_drop, ha] <;> first | (simp only [kC_bool, kG_bool, brk_ite]; split <;> (rename_i hc; try simp only [decide_eq_true_eq, Bool.not_eq_true, Bool.not_eq_eq_eq_not, Bool.not_true, Bool.not_false, decide_eq_false_iff_not, Decidable.not_not] at hc)) | exact decide_eq_decide.2 Iff.rfl | skip)
theorem idxS_lp {f : FuncId} {cap : List D} {p : Stp → Bool} (hf : ∀ fr (k : Stp), PS.call bar (T + 1) f (.agg k.cells :: cap) (fr :: h) = some (.bool (p k), fr :: h)) {l : List Stp} (hl : l.length ≤ 140737488355327) :
    ∀ (i : Nat) (ρ : Env), keep [0, 1, 7, 8] ρ = some [(0, .sl (l.map Stp.cells)), (1, .fn (.func f) [] cap), (7, .int .i64 l.length), (8, .int .i64 i)] →
    endD (T + 1) [.tmp 4] false (kS PA PS bar (T + 1) (inBlk 0 (PS.lp bar (T + 1) L.slices_IndexFunc_ford_Step_ford_Step_0 ρ ([] :: h))) K.slices_IndexFunc_ford_Step_ford_Step_0) = some (.int .i64 (idxF p (l.drop i) i), h) := by
  refine down l.length fun i ih ρ hk => ?_
  by_cases e : i < l.length
  · replace ih := ih e
    have e1 := wrap_succ e hl
    rw [drop_at e]; rw [P.slices_IndexFunc_ford_Step_ford_Step_0, hk]; simp only [B.slices_IndexFunc_ford_Step_ford_Step_0]
    repeat' (simp [*, -List.getElem_cons_drop, idxF, inRange_nat] <;> first | (simp only [kC_bool, kG_bool, brk_ite]; split <;> (rename_i hc; try simp only [decide_eq_true_eq, Bool.not_eq_true, Bool.not_eq_eq_eq_not, Bool.not_true, Bool.not_false, decide_eq_false_iff_not, Decidable.not_not] at hc)) | exact decide_eq_decide.2 Iff.rfl | skip)
  · rw [drop_end e]; rw [P.slices_IndexFunc_ford_Step_ford_Step_0, hk]; simp only [B.slices_IndexFunc_ford_Step_ford_Step_0]
    repeat' (simp [*, -List.getElem_cons_drop, K.slices_IndexFunc_ford_Step_ford_Step_0, idxF] <;> first | (simp only [kC_bool, kG_bool, brk_ite]; split <;> (rename_i hc; try simp only [decide_eq_true_eq, Bool.not_eq_true, Bool.not_eq_eq_eq_not, Bool.not_true, Bool.not_false, decide_eq_false_iff_not, Decidable.not_not] at hc)) | exact decide_eq_decide.2 Iff.rfl | skip)
theorem idxS_ok {f : FuncId} {cap : List D} {p : Stp → Bool} (hf : ∀ fr (k : Stp), PS.call bar (T + 1) f (.agg k.cells :: cap) (fr :: h) = some (.bool (p k), fr :: h)) {l : List Stp} (hl : l.length ≤ 140737488355327) :
    PS.call bar T F.slices_IndexFunc_ford_Step_ford_Step [.sl (l.map Stp.cells), .fn (.func f) [] cap] h = some (.int .i64 (idxF p l 0), h) := by
  rw [E.slices_IndexFunc_ford_Step_ford_Step]
  simp only [C.slices_IndexFunc_ford_Step_ford_Step]
  repeat' (simp [*, -List.getElem_cons_drop] <;> first | (simp only [kC_bool, kG_bool, brk_ite]; split <;> (rename_i hc; try simp only [decide_eq_true_eq, Bool.not_eq_true, Bool.not_eq_eq_eq_not, Bool.not_true, Bool.not_false, decide_eq_false_iff_not, Decidable.not_not] at hc)) | exact decide_eq_decide.2 Iff.rfl | skip)
  refine Eq.trans (idxS_lp hf hl 0 _ ?_) ?_ <;> simp

/-! the kids of a step -/
def nkAt (n : Node) (k : Nat) : Int := (n.kids[k]?).getD 0
def kidAt (s : Stp) (k : Nat) : Int := (s.kids[k]?).getD 0
def kidF (l : List Stp) (s : Stp) (k : Nat) (c : Clm) : Bool := decide (k < s.kids.length) && (stpAt l (kidAt s k)).about.is c
def endF (l : List Stp) (s : Stp) (k : Nat) : Int := (stpAt l (kidAt s k)).end_
def Early (l : List Stp) (ks : List Int) : Prop := ∀ k ∈ ks, 0 ≤ k ∧ k < l.length
theorem inRange_at {l : List Stp} {s : Stp} (hs : Early l s.kids) {k : Nat} (hk : k < s.kids.length) : inRange s.kids[k] l.length = some s.kids[k].toNat ∧ l[s.kids[k].toNat]? = some (stpAt l (kidAt s k)) := by
  have := hs _ (List.getElem_mem hk)
  refine ⟨?_, ?_⟩
  · unfold inRange; rw [decide_eq_true this]; simp
  · have h1 : s.kids[k].toNat < l.length := by omega
    simp [stpAt, kidAt, hk, h1]
variable {g : Gram} {x : List UInt8} {l : List Stp}
theorem end_ok {s : Stp} (hs : Early l s.kids) {k : Nat} (hk : k < s.kids.length) : PS.call bar T F.ford_checker_end [.agg (chk g x l), .agg s.cells, .int .i64 k] h = some (.int .i64 (endF l s k), h) := by
  rw [E.ford_checker_end]
  simp only [C.ford_checker_end]
  obtain ⟨e1, e2⟩ := inRange_at hs hk
  repeat' (simp [*, -List.getElem_cons_drop, inRange_nat, endF] <;> first | (simp only [kC_bool, kG_bool, brk_ite]; split <;> (rename_i hc; try simp only [decide_eq_true_eq, Bool.not_eq_true, Bool.not_eq_eq_eq_not, Bool.not_true, Bool.not_false, decide_eq_false_iff_not, Decidable.not_not] at hc)) | exact decide_eq_decide.2 Iff.rfl | skip)
theorem kid_ok (hb : bar ≤ T) {s : Stp} (hs : Early l s.kids) (k : Nat) (c : Clm) : PS.call bar T F.ford_checker_kid [.agg (chk g x l), .agg s.cells, .int .i64 k, .agg c.cells] h = some (.bool (kidF l s k c), h) := by
  rw [E.ford_checker_kid]
  simp only [C.ford_checker_kid]
  have hb1 : bar ≤ T + 1 := by omega
  by_cases hk : k < s.kids.length
  · obtain ⟨e1, e2⟩ := inRange_at hs hk
    repeat' (simp [*, -List.getElem_cons_drop, inRange_nat, kidF, about_ok, Clm.is] <;> first | (simp only [kC_bool, kG_bool, brk_ite]; split <;> (rename_i hc; try simp only [decide_eq_true_eq, Bool.not_eq_true, Bool.not_eq_eq_eq_not, Bool.not_true, Bool.not_false, decide_eq_false_iff_not, Decidable.not_not] at hc)) | exact decide_eq_decide.2 Iff.rfl | skip)
  · repeat' (simp [*, -List.getElem_cons_drop, kidF] <;> first | (simp only [kC_bool, kG_bool, brk_ite]; split <;> (rename_i hc; try simp only [decide_eq_true_eq, Bool.not_eq_true, Bool.not_eq_eq_eq_not, Bool.not_true, Bool.not_false, decide_eq_false_iff_not, Decidable.not_not] at hc)) | exact decide_eq_decide.2 Iff.rfl | skip)

/-! bits of a set -/
def setAt (s0 s1 s2 s3 : Int) (c : Int) : Int := if c < 64 then s0 else if c < 128 then s1 else if c < 192 then s2 else s3
def hasF (s0 s1 s2 s3 : Int) (c : Int) : Bool := decide ((setAt s0 s1 s2 s3 c / 2 ^ (c % 64).toNat) % 2 = 1)
theorem and_one {a : Int} (h : 0 ≤ a) : IntKind.u64.wrap (((a % 2 ^ IntKind.u64.bits).toNat &&& ((1 : Int) % 2 ^ IntKind.u64.bits).toNat : Nat) : Int) = a % 2 := by
  obtain ⟨n, rfl⟩ := Int.eq_ofNat_of_zero_le h
  have h1 : (((n : Int) % 2 ^ IntKind.u64.bits).toNat &&& ((1 : Int) % 2 ^ IntKind.u64.bits).toNat) = n % 2 := by
    show (((n : Int) % 18446744073709551616).toNat &&& 1) = n % 2
    rw [show ((n : Int) % 18446744073709551616).toNat = n % 18446744073709551616 by omega, Nat.and_one_is_mod]
    omega
  rw [h1, wrap_u64] <;> omega
theorem setAt_iaA (s0 s1 s2 s3 : Int) {c : Nat} (h : c < 256) : [D.int .u64 s0, .int .u64 s1, .int .u64 s2, .int .u64 s3][c / 64]? = some (.int .u64 (setAt s0 s1 s2 s3 c)) := by
  unfold setAt
  rcases (show c / 64 = 0 ∨ c / 64 = 1 ∨ c / 64 = 2 ∨ c / 64 = 3 by omega) with e | e | e | e <;> rw [e]
  · rw [if_pos (by omega)]; rfl
  · rw [if_neg (by omega), if_pos (by omega)]; rfl
  · rw [if_neg (by omega), if_neg (by omega), if_pos (by omega)]; rfl
  · rw [if_neg (by omega), if_neg (by omega), if_neg (by omega)]; rfl
theorem bsHas_ok {s0 s1 s2 s3 : Int} (h0 : 0 ≤ s0) (h1 : 0 ≤ s1) (h2 : 0 ≤ s2) (h3 : 0 ≤ s3) {c : Nat} (hc : c < 256) : PS.call bar T F.byteset_Has [.agg [.int .u64 s0, .int .u64 s1, .int .u64 s2, .int .u64 s3], .int .u8 c] h = some (.bool (hasF s0 s1 s2 s3 c), h) := by
  rw [E.byteset_Has]
  simp only [C.byteset_Has]
  have e0 : 0 ≤ setAt s0 s1 s2 s3 c := by unfold setAt; split <;> (try split) <;> (try split) <;> assumption
  have e1 : IntKind.u8.wrap ((c : Int) / 64) = (c : Int) / 64 := by rw [wrap_u8] <;> omega
  have e3 : inRange ((c : Int) / 64) 4 = some (c / 64) := by
    have := inRange_nat (show c / 64 < 4 by omega)
    rwa [Int.natCast_ediv] at this
  have e4 := setAt_iaA s0 s1 s2 s3 hc
  have e2 : (c : Int).tmod 64 = (c : Int) % 64 := Int.tmod_eq_emod_of_nonneg (by omega)
  have e8 : min ((c : Int) % 64).toNat IntKind.u64.bits = ((c : Int) % 64).toNat := by show min _ 64 = _; omega
  have e5 : ¬ ((c : Int) % 64) < 0 := by omega
  have e6 : ∀ n : Nat, (setAt s0 s1 s2 s3 c).fdiv (2 ^ n) = setAt s0 s1 s2 s3 c / 2 ^ n := fun n => Int.fdiv_eq_ediv_of_nonneg _ (Int.pow_nonneg (by omega))
  have e7 : ∀ n : Nat, 0 ≤ setAt s0 s1 s2 s3 c / 2 ^ n := fun n => Int.ediv_nonneg e0 (Int.pow_nonneg (by omega))
  clear hc
  repeat' (simp [*, -List.getElem_cons_drop, shiftI, hasF, and_one] <;> first | (simp only [kC_bool, kG_bool, brk_ite]; split <;> (rename_i hc; try simp only [decide_eq_true_eq, Bool.not_eq_true, Bool.not_eq_eq_eq_not, Bool.not_true, Bool.not_false, decide_eq_false_iff_not, Decidable.not_not] at hc)) | exact decide_eq_decide.2 Iff.rfl | skip)
end AM
/- Derivations: the checks of single steps of package ford. -/
namespace AM
open Go
attribute [local simp] opsD_nil opsD_cons kG_true kG_false kO_some kO_none kR_some kR_none kS_normal kS_ret kS_exit kS_none kC_true kC_false kK_some exec_skip exec_reg exec_seq exec_cond exec_blk exec_loop exec_exit exec_ret exec_kp inBlk_normal inBlk_ret inBlk_exit inBlk_none endD_normal endD_ret endD_none
attribute [local simp] opD step wanted guardB lk putE Opd.ev evAll argEnv newO pushO getO setO keep D.cells D.one D.stb D.lvl D.lvl.lvlAll asB asI asArr asMap asStr asAgg ldD faD partD binD binI binS eqD eqL_cons eqL_nil ite_tf ite_bf eqSK unD stD putCells may nckD resD tupD frz frz.frzAll okD iaAD iaSD lenVD lenSD callDD callFn fills extD mxD mnD maxL minL
set_option maxRecDepth 10000
set_option maxHeartbeats 0
set_option linter.unusedSimpArgs false
set_option linter.unusedVariables false
variable {bar T : Nat} {h : Heap}
variable {g : Gram} {x : List UInt8} {l : List Stp}
theorem end0_ok {s : Stp} (hs : Early l s.kids) (hk : 0 < s.kids.length) : PS.call bar T F.ford_checker_end [.agg (chk g x l), .agg s.cells, .int .i64 0] h = some (.int .i64 (endF l s 0), h) := end_ok hs hk
theorem end1_ok {s : Stp} (hs : Early l s.kids) (hk : 1 < s.kids.length) : PS.call bar T F.ford_checker_end [.agg (chk g x l), .agg s.cells, .int .i64 1] h = some (.int .i64 (endF l s 1), h) := end_ok hs hk
theorem kid0_ok (hb : bar ≤ T) {s : Stp} (hs : Early l s.kids) (a : Int) (r : Bool) (b : Int) : PS.call bar T F.ford_checker_kid [.agg (chk g x l), .agg s.cells, .int .i64 0, .agg [.int .i64 a, .bool r, .int .i64 b]] h = some (.bool (kidF l s 0 ⟨a, r, b⟩), h) := kid_ok hb hs 0 ⟨a, r, b⟩
theorem kid1_ok (hb : bar ≤ T) {s : Stp} (hs : Early l s.kids) (a : Int) (r : Bool) (b : Int) : PS.call bar T F.ford_checker_kid [.agg (chk g x l), .agg s.cells, .int .i64 1, .agg [.int .i64 a, .bool r, .int .i64 b]] h = some (.bool (kidF l s 1 ⟨a, r, b⟩), h) := kid_ok hb hs 1 ⟨a, r, b⟩
theorem kidF_lt {s : Stp} {k : Nat} {c : Clm} (hk : kidF l s k c = true) : k < s.kids.length := by
  simp only [kidF, Bool.and_eq_true, decide_eq_true_eq] at hk; exact hk.1

def restF (l : List Stp) (s : Stp) : Bool := decide (s.kids.length = 2) && (kidF l s 1 ⟨s.node, true, endF l s 0⟩ && decide (s.end_ = endF l s 1))
theorem rest_ok (hb : bar ≤ T) {s : Stp} (hs : Early l s.kids) : PS.call bar T F.ford_checker_rest [.agg (chk g x l), .agg s.cells] h = some (.bool (restF l s), h) := by
  rw [E.ford_checker_rest]
  simp only [C.ford_checker_rest]
  have hb1 : bar ≤ T + 1 := by omega
  by_cases c : s.kids.length = 2
  · repeat' (simp [*, -List.getElem_cons_drop, restF, end0_ok hs, end1_ok hs, kid1_ok _ hs, Int.ofNat_inj] <;> first | (simp only [kC_bool, kG_bool, brk_ite]; split <;> (rename_i hc; try simp only [decide_eq_true_eq, Bool.not_eq_true, Bool.not_eq_eq_eq_not, Bool.not_true, Bool.not_false, decide_eq_false_iff_not, Decidable.not_not] at hc)) | exact decide_eq_decide.2 Iff.rfl | skip)
  · have c' : ¬ (s.kids.length : Int) = 2 := by omega
    repeat' (simp [*, -List.getElem_cons_drop, restF] <;> first | (simp only [kC_bool, kG_bool, brk_ite]; split <;> (rename_i hc; try simp only [decide_eq_true_eq, Bool.not_eq_true, Bool.not_eq_eq_eq_not, Bool.not_true, Bool.not_false, decide_eq_false_iff_not, Decidable.not_not] at hc)) | exact decide_eq_decide.2 Iff.rfl | skip)
def nk0 (n : Node) : Int := (n.kids[0]?).getD 0
def repeatsF (l : List Stp) (s : Stp) (n : Node) (no : Int) : Bool :=
  if ¬ n.kids.length = 1 ∨ kidF l s 0 ⟨nk0 n, false, s.at_⟩ = false then false
  else if endF l s 0 < 0 then decide (s.kids.length = 1) && decide (s.end_ = no)
  else restF l s
theorem repeats_ok (hb : bar ≤ T) {s : Stp} (hs : Early l s.kids) (n : Node) (no : Int) : PS.call bar T F.ford_checker_repeats [.agg (chk g x l), .agg s.cells, .agg n.cells, .int .i64 no] h = some (.bool (repeatsF l s n no), h) := by
  rw [E.ford_checker_repeats]
  simp only [C.ford_checker_repeats]
  have hb1 : bar ≤ T + 1 := by omega
  by_cases c : n.kids.length = 1
  · obtain ⟨k, hk⟩ := List.length_eq_one_iff.1 c
    obtain ⟨op, kids, rule, s0, s1, s2, s3⟩ := n
    simp only at hk
    subst hk
    simp only [repeatsF, nk0]
    clear c
    cases ck : kidF l s 0 ⟨k, false, s.at_⟩ with
    | false => repeat' (simp [*, -List.getElem_cons_drop, inRange_zero, kid0_ok _ hs] <;> first | (simp only [kC_bool, kG_bool, brk_ite]; split <;> (rename_i hc; try simp only [decide_eq_true_eq, Bool.not_eq_true, Bool.not_eq_eq_eq_not, Bool.not_true, Bool.not_false, decide_eq_false_iff_not, Decidable.not_not] at hc)) | exact decide_eq_decide.2 Iff.rfl | skip)
    | true =>
      have hlt := kidF_lt ck
      by_cases c1 : s.kids.length = 1
      · repeat' (simp [*, -List.getElem_cons_drop, inRange_zero, kid0_ok _ hs, end0_ok hs, rest_ok _ hs] <;> first | (simp only [kC_bool, kG_bool, brk_ite]; split <;> (rename_i hc; try simp only [decide_eq_true_eq, Bool.not_eq_true, Bool.not_eq_eq_eq_not, Bool.not_true, Bool.not_false, decide_eq_false_iff_not, Decidable.not_not] at hc)) | exact decide_eq_decide.2 Iff.rfl | skip)
      · have c' : ¬ (s.kids.length : Int) = 1 := by omega
        repeat' (simp [*, -List.getElem_cons_drop, inRange_zero, kid0_ok _ hs, end0_ok hs, rest_ok _ hs] <;> first | (simp only [kC_bool, kG_bool, brk_ite]; split <;> (rename_i hc; try simp only [decide_eq_true_eq, Bool.not_eq_true, Bool.not_eq_eq_eq_not, Bool.not_true, Bool.not_false, decide_eq_false_iff_not, Decidable.not_not] at hc)) | exact decide_eq_decide.2 Iff.rfl | skip)
  · have c' : ¬ (n.kids.length : Int) = 1 := by omega
    repeat' (simp [*, -List.getElem_cons_drop, repeatsF] <;> first | (simp only [kC_bool, kG_bool, brk_ite]; split <;> (rename_i hc; try simp only [decide_eq_true_eq, Bool.not_eq_true, Bool.not_eq_eq_eq_not, Bool.not_true, Bool.not_false, decide_eq_false_iff_not, Decidable.not_not] at hc)) | exact decide_eq_decide.2 Iff.rfl | skip)
end AM
/- Derivations: the checks of nodes of package ford. -/
namespace AM
open Go
attribute [local simp] opsD_nil opsD_cons kG_true kG_false kO_some kO_none kR_some kR_none kS_normal kS_ret kS_exit kS_none kC_true kC_false kK_some exec_skip exec_reg exec_seq exec_cond exec_blk exec_loop exec_exit exec_ret exec_kp inBlk_normal inBlk_ret inBlk_exit inBlk_none endD_normal endD_ret endD_none
attribute [local simp] opD step wanted guardB lk putE Opd.ev evAll argEnv newO pushO getO setO keep D.cells D.one D.stb D.lvl D.lvl.lvlAll asB asI asArr asMap asStr asAgg ldD faD partD binD binI binS eqD eqL_cons eqL_nil ite_tf ite_bf eqSK unD stD putCells may nckD resD tupD frz frz.frzAll okD iaAD iaSD lenVD lenSD callDD callFn fills extD mxD mnD maxL minL
set_option maxRecDepth 10000
set_option maxHeartbeats 0
set_option linter.unusedSimpArgs false
set_option linter.unusedVariables false
variable {bar T : Nat} {h : Heap}
variable {g : Gram} {x : List UInt8} {l : List Stp}
def SetOk (n : Node) : Prop := 0 ≤ n.s0 ∧ 0 ≤ n.s1 ∧ 0 ≤ n.s2 ∧ 0 ≤ n.s3
theorem bsHas_b {s0 s1 s2 s3 : Int} (h0 : 0 ≤ s0) (h1 : 0 ≤ s1) (h2 : 0 ≤ s2) (h3 : 0 ≤ s3) (c : UInt8) : PS.call bar T F.byteset_Has [.agg [.int .u64 s0, .int .u64 s1, .int .u64 s2, .int .u64 s3], .int .u8 c.toNat] h = some (.bool (hasF s0 s1 s2 s3 c.toNat), h) := bsHas_ok h0 h1 h2 h3 c.toNat_lt
def byteIn (n : Node) (c : UInt8) : Bool := hasF n.s0 n.s1 n.s2 n.s3 c.toNat
def leafE (x : List UInt8) (n : Node) (p : Nat) : Int := if n.op = 1 then (if ((x[p]?).map (byteIn n)).getD false = true then p + 1 else -1) else p
def leafF (x : List UInt8) (s : Stp) (n : Node) : Bool := decide (s.kids.length = 0) && decide (s.end_ = leafE x n s.at_.toNat)
theorem leaf_ok {s : Stp} {n : Node} (hn : SetOk n) (hx : x.length ≤ 140737488355327) (h0 : 0 ≤ s.at_) (h1 : s.at_ ≤ x.length) : PS.call bar T F.ford_checker_leaf [.agg (chk g x l), .agg s.cells, .agg n.cells] h = some (.bool (leafF x s n), h) := by
  rw [E.ford_checker_leaf]
  simp only [C.ford_checker_leaf]
  obtain ⟨a, b, at_, c, kids⟩ := s
  obtain ⟨p, rfl⟩ := Int.eq_ofNat_of_zero_le h0
  obtain ⟨n0, n1, n2, n3⟩ := hn
  clear h0
  simp only [leafF]
  by_cases cp : p < x.length
  · have e1 := wrap_succ cp hx
    repeat' (simp [*, -List.getElem_cons_drop, leafE, inRange_nat, bsHas_b, byteIn] <;> first | (simp only [kC_bool, kG_bool, brk_ite]; split <;> (rename_i hc; try simp only [decide_eq_true_eq, Bool.not_eq_true, Bool.not_eq_eq_eq_not, Bool.not_true, Bool.not_false, decide_eq_false_iff_not, Decidable.not_not] at hc)) | exact decide_eq_decide.2 Iff.rfl | skip)
  · repeat' (simp [*, -List.getElem_cons_drop, leafE] <;> first | (simp only [kC_bool, kG_bool, brk_ite]; split <;> (rename_i hc; try simp only [decide_eq_true_eq, Bool.not_eq_true, Bool.not_eq_eq_eq_not, Bool.not_true, Bool.not_false, decide_eq_false_iff_not, Decidable.not_not] at hc)) | exact decide_eq_decide.2 Iff.rfl | skip)
theorem predicate_ok (b : Bool) (a : Int) : PS.call bar T F.ford_predicate [.bool b, .int .i64 a] h = some (.int .i64 (if b = true then a else -1), h) := by
  rw [E.ford_predicate]
  simp only [C.ford_predicate]
  repeat' (simp [*, -List.getElem_cons_drop] <;> first | (simp only [kC_bool, kG_bool, brk_ite]; split <;> (rename_i hc; try simp only [decide_eq_true_eq, Bool.not_eq_true, Bool.not_eq_eq_eq_not, Bool.not_true, Bool.not_false, decide_eq_false_iff_not, Decidable.not_not] at hc)) | exact decide_eq_decide.2 Iff.rfl | skip)
theorem c2_ok (e : Int) : PS.call bar T F.ford_checker_right_c2 [.int .i64 e] h = some (.int .i64 e, h) := by
  rw [E.ford_checker_right_c2]
  simp only [C.ford_checker_right_c2]
  repeat' (simp [*, -List.getElem_cons_drop] <;> first | (simp only [kC_bool, kG_bool, brk_ite]; split <;> (rename_i hc; try simp only [decide_eq_true_eq, Bool.not_eq_true, Bool.not_eq_eq_eq_not, Bool.not_true, Bool.not_false, decide_eq_false_iff_not, Decidable.not_not] at hc)) | exact decide_eq_decide.2 Iff.rfl | skip)
theorem u1_ok (e : Int) : PS.call bar T F.ford_checker_unary_c1 [.int .i64 e] h = some (.int .i64 e, h) := by
  rw [E.ford_checker_unary_c1]
  simp only [C.ford_checker_unary_c1]
  repeat' (simp [*, -List.getElem_cons_drop] <;> first | (simp only [kC_bool, kG_bool, brk_ite]; split <;> (rename_i hc; try simp only [decide_eq_true_eq, Bool.not_eq_true, Bool.not_eq_eq_eq_not, Bool.not_true, Bool.not_false, decide_eq_false_iff_not, Decidable.not_not] at hc)) | exact decide_eq_decide.2 Iff.rfl | skip)
theorem c1_ok {f1 f2 fr : List Obj} {j : Nat} {i : Int} (hj : fr[j]? = some (.arr [[.int .i64 i]])) (k : Int) : PS.call bar (T + 3) F.ford_checker_right_c1 [.int .i64 k, .ptr T j 0 0] (f1 :: f2 :: fr :: h) = some (.bool (decide (k < 0) || decide (k ≥ i)), f1 :: f2 :: fr :: h) := by
  rw [E.ford_checker_right_c1]
  simp only [C.ford_checker_right_c1]
  repeat' (simp [*, -List.getElem_cons_drop] <;> first | (simp only [kC_bool, kG_bool, brk_ite]; split <;> (rename_i hc; try simp only [decide_eq_true_eq, Bool.not_eq_true, Bool.not_eq_eq_eq_not, Bool.not_true, Bool.not_false, decide_eq_false_iff_not, Decidable.not_not] at hc)) | exact decide_eq_decide.2 Iff.rfl | skip)
theorem u2_ok {f1 fr : List Obj} {j : Nat} {s : Stp} (hj : fr[j]? = some (.arr [s.cells])) (k : Int) : PS.call bar (T + 2) F.ford_checker_unary_c2 [.int .i64 k, .ptr T j 0 0] (f1 :: fr :: h) = some (.int .i64 (if s.at_ > k then s.at_ else k), f1 :: fr :: h) := by
  rw [E.ford_checker_unary_c2]
  simp only [C.ford_checker_unary_c2]
  repeat' (simp [*, -List.getElem_cons_drop] <;> first | (simp only [kC_bool, kG_bool, brk_ite]; split <;> (rename_i hc; try simp only [decide_eq_true_eq, Bool.not_eq_true, Bool.not_eq_eq_eq_not, Bool.not_true, Bool.not_false, decide_eq_false_iff_not, Decidable.not_not] at hc)) | exact decide_eq_decide.2 Iff.rfl | skip)
theorem u3_ok {f1 fr : List Obj} {j : Nat} {s : Stp} (hj : fr[j]? = some (.arr [s.cells])) (k : Int) : PS.call bar (T + 2) F.ford_checker_unary_c3 [.int .i64 k, .ptr T j 0 0] (f1 :: fr :: h) = some (.int .i64 (if k ≥ 0 then s.at_ else -1), f1 :: fr :: h) := by
  rw [E.ford_checker_unary_c3]
  simp only [C.ford_checker_unary_c3]
  repeat' (simp [*, -List.getElem_cons_drop, predicate_ok] <;> first | (simp only [kC_bool, kG_bool, brk_ite]; split <;> (rename_i hc; try simp only [decide_eq_true_eq, Bool.not_eq_true, Bool.not_eq_eq_eq_not, Bool.not_true, Bool.not_false, decide_eq_false_iff_not, Decidable.not_not] at hc)) | exact decide_eq_decide.2 Iff.rfl | skip)
theorem u4_ok {f1 fr : List Obj} {j : Nat} {s : Stp} (hj : fr[j]? = some (.arr [s.cells])) (k : Int) : PS.call bar (T + 2) F.ford_checker_unary_c4 [.int .i64 k, .ptr T j 0 0] (f1 :: fr :: h) = some (.int .i64 (if k < 0 then s.at_ else -1), f1 :: fr :: h) := by
  rw [E.ford_checker_unary_c4]
  simp only [C.ford_checker_unary_c4]
  repeat' (simp [*, -List.getElem_cons_drop, predicate_ok] <;> first | (simp only [kC_bool, kG_bool, brk_ite]; split <;> (rename_i hc; try simp only [decide_eq_true_eq, Bool.not_eq_true, Bool.not_eq_eq_eq_not, Bool.not_true, Bool.not_false, decide_eq_false_iff_not, Decidable.not_not] at hc)) | exact decide_eq_decide.2 Iff.rfl | skip)
def oneF (l : List Stp) (s : Stp) (c : Clm) (chg : Int → Int) : Bool := decide (s.kids.length = 1) && (kidF l s 0 c && decide (s.end_ = chg (endF l s 0)))
theorem one_ok (hb : bar ≤ T) {s : Stp} (hs : Early l s.kids) (a : Int) (r : Bool) (b : Int) {f : FuncId} {cap : List D} {chg : Int → Int} (hf : ∀ bar fr e, PS.call bar (T + 1) f (.int .i64 e :: cap) (fr :: h) = some (.int .i64 (chg e), fr :: h)) (hcap : D.lvl.lvlAll cap ≤ T) :
    PS.call bar T F.ford_checker_one [.agg (chk g x l), .agg s.cells, .agg [.int .i64 a, .bool r, .int .i64 b], .fn (.func f) [] cap] h = some (.bool (oneF l s ⟨a, r, b⟩ chg), h) := by
  rw [E.ford_checker_one]
  simp only [C.ford_checker_one]
  have hb1 : bar ≤ T + 1 := by omega
  by_cases c : s.kids.length = 1
  · cases ck : kidF l s 0 ⟨a, r, b⟩ with
    | false => repeat' (simp [*, -List.getElem_cons_drop, oneF, kid0_ok _ hs] <;> first | (simp only [kC_bool, kG_bool, brk_ite]; split <;> (rename_i hc; try simp only [decide_eq_true_eq, Bool.not_eq_true, Bool.not_eq_eq_eq_not, Bool.not_true, Bool.not_false, decide_eq_false_iff_not, Decidable.not_not] at hc)) | exact decide_eq_decide.2 Iff.rfl | skip)
    | true => repeat' (simp [*, -List.getElem_cons_drop, oneF, kid0_ok _ hs, end0_ok hs] <;> first | (simp only [kC_bool, kG_bool, brk_ite]; split <;> (rename_i hc; try simp only [decide_eq_true_eq, Bool.not_eq_true, Bool.not_eq_eq_eq_not, Bool.not_true, Bool.not_false, decide_eq_false_iff_not, Decidable.not_not] at hc)) | exact decide_eq_decide.2 Iff.rfl | skip)
  · have c' : ¬ (s.kids.length : Int) = 1 := by omega
    repeat' (simp [*, -List.getElem_cons_drop, oneF] <;> first | (simp only [kC_bool, kG_bool, brk_ite]; split <;> (rename_i hc; try simp only [decide_eq_true_eq, Bool.not_eq_true, Bool.not_eq_eq_eq_not, Bool.not_true, Bool.not_false, decide_eq_false_iff_not, Decidable.not_not] at hc)) | exact decide_eq_decide.2 Iff.rfl | skip)
/-! sequences and choices -/

def sevGo (l : List Stp) (s : Stp) (n : Node) : Nat → Nat → Int → Bool
  | 0, _, _ => decide (s.end_ = endF l s (s.kids.length - 1))
  | m + 1, k, a => if kidF l s k ⟨nkAt n k, false, a⟩ = false then false else
    if n.op = 3 then (if ¬ (!decide (endF l s k < 0)) = decide (k < s.kids.length - 1) ∧ (k < s.kids.length - 1 ∨ s.kids.length < n.kids.length) then false else sevGo l s n m (k + 1) (endF l s k))
    else (if ¬ decide (endF l s k < 0) = decide (k < s.kids.length - 1) ∧ (k < s.kids.length - 1 ∨ s.kids.length < n.kids.length) then false else sevGo l s n m (k + 1) a)
def severalF (l : List Stp) (s : Stp) (n : Node) : Bool := if s.kids.length = 0 ∨ s.kids.length > n.kids.length then false else sevGo l s n s.kids.length 0 s.at_
theorem several_lp (hb : bar ≤ T) {s : Stp} (hs : Early l s.kids) {n : Node} (hl : s.kids.length ≤ 140737488355327) (h0 : 0 < s.kids.length) (h1 : s.kids.length ≤ n.kids.length) :
    ∀ (m k : Nat) (a : Int) (ρ : Env), m + k = s.kids.length → keep [3, 4, 5, 7, 8, 32, 33] ρ = some [(3, .ptr T 0 0 0), (4, .ptr T 1 0 0), (5, .ptr T 2 0 0), (7, .int .i64 a), (8, .int .i64 (s.kids.length - 1 : Nat)), (32, .int .i64 s.kids.length), (33, .int .i64 k)] →
    endD (T + 1) [.tmp 6] false (kS PA PS bar (T + 1) (inBlk 0 (PS.lp bar (T + 1) L.ford_checker_several_0 ρ ([.arr [chk g x l], .arr [s.cells], .arr [n.cells]] :: h))) K.ford_checker_several_0) = some (.bool (sevGo l s n m k a), h) := by
  have hb1 : bar ≤ T + 1 := by omega
  intro m
  induction m with
  | zero =>
    intro k a ρ hm hk
    have e : ¬ k < s.kids.length := by omega
    have e2 : s.kids.length - 1 < s.kids.length := by omega
    have e3 := fun bar T h => @end_ok bar T h g x l s hs _ e2
    rw [P.ford_checker_several_0, hk]; simp only [B.ford_checker_several_0]
    clear hm
    repeat' (simp [*, -List.getElem_cons_drop, K.ford_checker_several_0, sevGo] <;> first | (simp only [kC_bool, kG_bool, brk_ite]; split <;> (rename_i hc; try simp only [decide_eq_true_eq, Bool.not_eq_true, Bool.not_eq_eq_eq_not, Bool.not_true, Bool.not_false, decide_eq_false_iff_not, Decidable.not_not] at hc)) | exact decide_eq_decide.2 Iff.rfl | skip)
  | succ m ih =>
    intro k a ρ hm hk
    have e : k < s.kids.length := by omega
    have e1 := wrap_succ e hl
    have e2 : k < n.kids.length := by omega
    have e3 := fun bar T h => @end_ok bar T h g x l s hs _ e
    have e4 := fun bar T h (hb : bar ≤ T) (a : Int) (r : Bool) (b : Int) => @kid_ok bar T h g x l hb s hs k ⟨a, r, b⟩
    have e5 : nkAt n k = n.kids[k] := by simp [nkAt, e2]
    replace ih := fun a ρ => ih (k + 1) a ρ (by omega)
    clear hm h0 h1
    rw [P.ford_checker_several_0, hk]; simp only [B.ford_checker_several_0]
    cases ck : kidF l s k ⟨n.kids[k], false, a⟩ with
    | false => repeat' (simp [*, -List.getElem_cons_drop, inRange_nat, sevGo] <;> first | (simp only [kC_bool, kG_bool, brk_ite]; split <;> (rename_i hc; try simp only [decide_eq_true_eq, Bool.not_eq_true, Bool.not_eq_eq_eq_not, Bool.not_true, Bool.not_false, decide_eq_false_iff_not, Decidable.not_not] at hc)) | exact decide_eq_decide.2 Iff.rfl | skip)
    | true =>
      by_cases c1 : n.op = 3 <;> by_cases c2 : endF l s k < 0 <;> by_cases c3 : k < s.kids.length - 1 <;> by_cases c4 : s.kids.length < n.kids.length
      all_goals (repeat' (simp [*, -List.getElem_cons_drop, inRange_nat, sevGo] <;> first | (simp only [kC_bool, kG_bool, brk_ite]; split <;> (rename_i hc; try simp only [decide_eq_true_eq, Bool.not_eq_true, Bool.not_eq_eq_eq_not, Bool.not_true, Bool.not_false, decide_eq_false_iff_not, Decidable.not_not] at hc)) | exact decide_eq_decide.2 Iff.rfl | skip))
end AM
/- Derivations: the check of steps by package ford. -/
namespace AM
open Go
attribute [local simp] opsD_nil opsD_cons kG_true kG_false kO_some kO_none kR_some kR_none kS_normal kS_ret kS_exit kS_none kC_true kC_false kK_some exec_skip exec_reg exec_seq exec_cond exec_blk exec_loop exec_exit exec_ret exec_kp inBlk_normal inBlk_ret inBlk_exit inBlk_none endD_normal endD_ret endD_none
attribute [local simp] opD step wanted guardB lk putE Opd.ev evAll argEnv newO pushO getO setO keep D.cells D.one D.stb D.lvl D.lvl.lvlAll asB asI asArr asMap asStr asAgg ldD faD partD binD binI binS eqD eqL_cons eqL_nil ite_tf ite_bf eqSK unD stD putCells may nckD resD tupD frz frz.frzAll okD iaAD iaSD lenVD lenSD callDD callFn fills extD mxD mnD maxL minL
set_option maxRecDepth 10000
set_option maxHeartbeats 0
set_option linter.unusedSimpArgs false
set_option linter.unusedVariables false
variable {bar T : Nat} {h : Heap}
variable {g : Gram} {x : List UInt8} {l : List Stp}
theorem several_ok (hb : bar ≤ T) {s : Stp} (hs : Early l s.kids) {n : Node} (hl : s.kids.length ≤ 140737488355327) : PS.call bar T F.ford_checker_several [.agg (chk g x l), .agg s.cells, .agg n.cells] h = some (.bool (severalF l s n), h) := by
  rw [E.ford_checker_several]
  simp only [C.ford_checker_several]
  by_cases c1 : s.kids.length = 0
  · repeat' (simp [*, -List.getElem_cons_drop, severalF] <;> first | (simp only [kC_bool, kG_bool, brk_ite]; split <;> (rename_i hc; try simp only [decide_eq_true_eq, Bool.not_eq_true, Bool.not_eq_eq_eq_not, Bool.not_true, Bool.not_false, decide_eq_false_iff_not, Decidable.not_not] at hc)) | exact decide_eq_decide.2 Iff.rfl | skip)
  · have c1' : ¬ (s.kids.length : Int) = 0 := by omega
    by_cases c2 : n.kids.length < s.kids.length
    · repeat' (simp [*, -List.getElem_cons_drop, severalF] <;> first | (simp only [kC_bool, kG_bool, brk_ite]; split <;> (rename_i hc; try simp only [decide_eq_true_eq, Bool.not_eq_true, Bool.not_eq_eq_eq_not, Bool.not_true, Bool.not_false, decide_eq_false_iff_not, Decidable.not_not] at hc)) | exact decide_eq_decide.2 Iff.rfl | skip)
    · have e1 : IntKind.i64.wrap ((s.kids.length : Int) - 1) = ((s.kids.length - 1 : Nat) : Int) := by rw [wrap_i64] <;> omega
      have hL := @several_lp bar T h g x l hb s hs n hl (by omega) (by omega) s.kids.length 0 s.at_
      simp only [severalF, if_neg (show ¬ (s.kids.length = 0 ∨ s.kids.length > n.kids.length) by omega)]
      repeat' (simp [*, -List.getElem_cons_drop] <;> first | (simp only [kC_bool, kG_bool, brk_ite]; split <;> (rename_i hc; try simp only [decide_eq_true_eq, Bool.not_eq_true, Bool.not_eq_eq_eq_not, Bool.not_true, Bool.not_false, decide_eq_false_iff_not, Decidable.not_not] at hc)) | exact decide_eq_decide.2 Iff.rfl | skip)
      all_goals (refine Eq.trans (hL _ ?_ ?_) ?_ <;> simp)
def unaryF (l : List Stp) (s : Stp) (n : Node) : Bool :=
  if n.op = 5 then oneF l s ⟨s.node, true, s.at_⟩ (fun e => e)
  else if n.op = 6 then repeatsF l s n (-1)
  else if n.op = 7 then oneF l s ⟨nk0 n, false, s.at_⟩ (fun e => if s.at_ > e then s.at_ else e)
  else if n.op = 8 then oneF l s ⟨nk0 n, false, s.at_⟩ (fun e => if e ≥ 0 then s.at_ else -1)
  else oneF l s ⟨nk0 n, false, s.at_⟩ (fun e => if e < 0 then s.at_ else -1)
theorem unary_ok (hb : bar ≤ T) {s : Stp} (hs : Early l s.kids) {n : Node} (hn : n.kids.length = 1) : PS.call bar T F.ford_checker_unary [.agg (chk g x l), .agg s.cells, .agg n.cells] h = some (.bool (unaryF l s n), h) := by
  rw [E.ford_checker_unary]
  simp only [C.ford_checker_unary]
  have hb1 : bar ≤ T + 1 := by omega
  obtain ⟨k, hk⟩ := List.length_eq_one_iff.1 hn
  obtain ⟨op, kids, rule, s0, s1, s2, s3⟩ := n
  simp only at hk
  subst hk
  simp only [unaryF, nk0]
  clear hn
  have f1 := fun T h (hb : bar ≤ T) (a : Int) (r : Bool) (b : Int) => @one_ok bar T h g x l hb s hs a r b F.ford_checker_unary_c1 [] (fun e => e) (fun bar fr e => u1_ok e) (by simp [D.lvl.lvlAll])
  have f2 := fun o obs (a : Int) (r : Bool) (b : Int) => @one_ok bar (T + 1) ((o :: .arr [s.cells] :: obs) :: h) g x l hb1 s hs a r b F.ford_checker_unary_c2 [.ptr T 1 0 0] _ (fun bar fr e => u2_ok (j := 1) (s := s) (by simp) e) (by simp [D.lvl.lvlAll, D.lvl])
  have f3 := fun o obs (a : Int) (r : Bool) (b : Int) => @one_ok bar (T + 1) ((o :: .arr [s.cells] :: obs) :: h) g x l hb1 s hs a r b F.ford_checker_unary_c3 [.ptr T 1 0 0] _ (fun bar fr e => u3_ok (j := 1) (s := s) (by simp) e) (by simp [D.lvl.lvlAll, D.lvl])
  have f4 := fun o obs (a : Int) (r : Bool) (b : Int) => @one_ok bar (T + 1) ((o :: .arr [s.cells] :: obs) :: h) g x l hb1 s hs a r b F.ford_checker_unary_c4 [.ptr T 1 0 0] _ (fun bar fr e => u4_ok (j := 1) (s := s) (by simp) e) (by simp [D.lvl.lvlAll, D.lvl])
  have f5 := fun T h (hb : bar ≤ T) op => @repeats_ok bar T h g x l hb s hs ⟨op, [k], rule, s0, s1, s2, s3⟩ (-1)
  repeat' (simp [*, -List.getElem_cons_drop, inRange_zero] <;> first | (simp only [kC_bool, kG_bool, brk_ite]; split <;> (rename_i hc; try simp only [decide_eq_true_eq, Bool.not_eq_true, Bool.not_eq_eq_eq_not, Bool.not_true, Bool.not_false, decide_eq_false_iff_not, Decidable.not_not] at hc)) | exact decide_eq_decide.2 Iff.rfl | skip)
def EarlyI (s : Stp) (i : Int) : Bool := !anyL (fun k => decide (k < 0) || decide (k ≥ i)) s.kids
def rightF (g : Gram) (x : List UInt8) (l : List Stp) (i : Nat) : Bool :=
  let s := stpAt l i
  if s.node < 0 ∨ s.node ≥ g.nodes.length ∨ s.at_ < 0 ∨ s.at_ > x.length ∨ EarlyI s i = false then false else
  match g.nodes[s.node.toNat]? with
  | none => false
  | some n => if s.rest = true then (if n.op = 5 ∨ n.op = 6 then repeatsF l s n s.at_ else false)
    else if n.op = 0 ∨ n.op = 1 then leafF x s n
    else if n.op = 2 then oneF l s ⟨((g.rules[n.rule.toNat]?).map Rule.root).getD 0, false, s.at_⟩ (fun e => e)
    else if n.op = 3 ∨ n.op = 4 then severalF l s n
    else unaryF l s n
theorem early_of {s : Stp} {i : Int} (h : EarlyI s i = true) {l : List Stp} (hi : i ≤ l.length) : Early l s.kids := by
  simp only [EarlyI, Bool.not_eq_true'] at h
  intro k hk
  have : ∀ {ks : List Int}, anyL (fun k => decide (k < 0) || decide (k ≥ i)) ks = false → k ∈ ks → 0 ≤ k ∧ k < i := by
    intro ks
    induction ks with
    | nil => intro _ h; cases h
    | cons a ks ih =>
      intro h1 h2
      simp only [anyL_cons, Bool.or_eq_false_iff, decide_eq_false_iff_not] at h1
      rcases List.mem_cons.1 h2 with rfl | h2
      · omega
      · exact ih h1.2 h2
  have := this h hk
  omega
theorem right_ok (hb : bar ≤ T) (hg : g.Ok) (hm : ∀ n ∈ g.nodes, madeF n g.rules.length = true) (hx : x.length ≤ 140737488355327) (hl : ∀ s ∈ l, s.Ok) {i : Nat} (hi : i < l.length) :
    PS.call bar T F.ford_checker_right [.agg (chk g x l), .int .i64 i] h = some (.bool (rightF g x l i), h) := by
  have hb1 : bar ≤ T + 1 := by omega
  have hs0 := hl _ (List.getElem_mem hi)
  have hst : stpAt l i = l[i] := by simp [stpAt, hi]
  obtain ⟨s, hs⟩ : ∃ s, l[i] = s := ⟨_, rfl⟩
  rw [hs] at hs0 hst
  have hsk := hs0.len
  have hc := fun bar (ob1 : Obj) (fr : List Obj) => @contI_ok bar (T + 1) ((ob1 :: .arr [[.int .i64 (i : Int)]] :: fr) :: h) F.ford_checker_right_c1 [.ptr T 1 0 0] (fun k => decide (k < 0) || decide (k ≥ (i : Int))) (fun bar f1 f2 k => c1_ok (i := (i : Int)) (j := 1) (by simp) k) s.kids hsk
  rw [E.ford_checker_right]
  simp only [C.ford_checker_right]
  simp only [rightF, hst]
  by_cases d1 : s.node < 0
  · repeat' (simp [*, -List.getElem_cons_drop, inRange_nat] <;> first | (simp only [kC_bool, kG_bool, brk_ite]; split <;> (rename_i hc; try simp only [decide_eq_true_eq, Bool.not_eq_true, Bool.not_eq_eq_eq_not, Bool.not_true, Bool.not_false, decide_eq_false_iff_not, Decidable.not_not] at hc)) | exact decide_eq_decide.2 Iff.rfl | skip)
  by_cases d2 : (g.nodes.length : Int) ≤ s.node
  · repeat' (simp [*, -List.getElem_cons_drop, inRange_nat] <;> first | (simp only [kC_bool, kG_bool, brk_ite]; split <;> (rename_i hc; try simp only [decide_eq_true_eq, Bool.not_eq_true, Bool.not_eq_eq_eq_not, Bool.not_true, Bool.not_false, decide_eq_false_iff_not, Decidable.not_not] at hc)) | exact decide_eq_decide.2 Iff.rfl | skip)
  by_cases d3 : s.at_ < 0
  · repeat' (simp [*, -List.getElem_cons_drop, inRange_nat] <;> first | (simp only [kC_bool, kG_bool, brk_ite]; split <;> (rename_i hc; try simp only [decide_eq_true_eq, Bool.not_eq_true, Bool.not_eq_eq_eq_not, Bool.not_true, Bool.not_false, decide_eq_false_iff_not, Decidable.not_not] at hc)) | exact decide_eq_decide.2 Iff.rfl | skip)
  by_cases d4 : (x.length : Int) < s.at_
  · repeat' (simp [*, -List.getElem_cons_drop, inRange_nat] <;> first | (simp only [kC_bool, kG_bool, brk_ite]; split <;> (rename_i hc; try simp only [decide_eq_true_eq, Bool.not_eq_true, Bool.not_eq_eq_eq_not, Bool.not_true, Bool.not_false, decide_eq_false_iff_not, Decidable.not_not] at hc)) | exact decide_eq_decide.2 Iff.rfl | skip)
  cases d5 : EarlyI s i with
  | false =>
    simp only [EarlyI, Bool.not_eq_false'] at d5
    repeat' (simp [*, -List.getElem_cons_drop, inRange_nat] <;> first | (simp only [kC_bool, kG_bool, brk_ite]; split <;> (rename_i hc; try simp only [decide_eq_true_eq, Bool.not_eq_true, Bool.not_eq_eq_eq_not, Bool.not_true, Bool.not_false, decide_eq_false_iff_not, Decidable.not_not] at hc)) | exact decide_eq_decide.2 Iff.rfl | skip)
  | true =>
    have he : Early l s.kids := early_of d5 (by omega)
    simp only [EarlyI, Bool.not_eq_true'] at d5
    have i00 : inRange (i : Int) l.length = some i := inRange_nat hi
    obtain ⟨nd, rest, at_, end_, kids⟩ := s
    simp only at d1 d2 d3 d4 d5 he hsk hc hs0
    have hlt : nd.toNat < g.nodes.length := by omega
    have hn := hm _ (List.getElem_mem hlt)
    have hno := hg.nodes _ (List.getElem_mem hlt)
    obtain ⟨m1, m2, m3, m4⟩ := madeF_facts hn
    have hset : SetOk g.nodes[nd.toNat] := ⟨hno.s0.1, hno.s1.1, hno.s2.1, hno.s3.1⟩
    obtain ⟨n, hnn⟩ : ∃ n, g.nodes[nd.toNat] = n := ⟨_, rfl⟩
    have i1 : inRange nd g.nodes.length = some nd.toNat := inRange_int (by omega) (by omega)
    have i2 : g.nodes[nd.toNat]? = some n := by rw [List.getElem?_eq_getElem hlt, hnn]
    rw [hnn] at hn hno m1 m2 m3 m4 hset
    obtain ⟨op, nk, rule, s0, s1, s2, s3⟩ := n
    simp only at m1 m2 m3 m4
    have f5 := fun T h (hb : bar ≤ T) op no => @repeats_ok bar T h g x l hb ⟨nd, true, at_, end_, kids⟩ he ⟨op, nk, rule, s0, s1, s2, s3⟩ no
    have f6 := fun T h op => @leaf_ok bar T h g x l ⟨nd, false, at_, end_, kids⟩ ⟨op, nk, rule, s0, s1, s2, s3⟩ hset hx (by simp; omega) (by simp; omega)
    have f7 := fun T h (hb : bar ≤ T) a r b => @one_ok bar T h g x l hb ⟨nd, false, at_, end_, kids⟩ he a r b F.ford_checker_right_c2 [] (fun e => e) (fun bar fr e => c2_ok e) (by simp [D.lvl.lvlAll])
    have f8 := fun T h (hb : bar ≤ T) op => @several_ok bar T h g x l hb ⟨nd, false, at_, end_, kids⟩ he ⟨op, nk, rule, s0, s1, s2, s3⟩ hsk
    clear hno hm hset hs0 hst hl hx hn hnn hlt
    cases rest with
    | true => repeat' (simp [*, -List.getElem_cons_drop, EarlyI] <;> first | (simp only [kC_bool, kG_bool, brk_ite]; split <;> (rename_i hc; try simp only [decide_eq_true_eq, Bool.not_eq_true, Bool.not_eq_eq_eq_not, Bool.not_true, Bool.not_false, decide_eq_false_iff_not, Decidable.not_not] at hc)) | exact decide_eq_decide.2 Iff.rfl | skip)
    | false =>
      by_cases o5 : 5 ≤ op
      · have f9 := fun T h (hb : bar ≤ T) op => @unary_ok bar T h g x l hb ⟨nd, false, at_, end_, kids⟩ he ⟨op, nk, rule, s0, s1, s2, s3⟩ (m4 o5)
        have o0 : ¬ op = 0 := by omega
        have o1 : ¬ op = 1 := by omega
        have o2 : ¬ op = 2 := by omega
        have o3 : ¬ op = 3 := by omega
        have o4 : ¬ op = 4 := by omega
        clear m3 m4
        repeat' (simp [*, -List.getElem_cons_drop, EarlyI] <;> first | (simp only [kC_bool, kG_bool, brk_ite]; split <;> (rename_i hc; try simp only [decide_eq_true_eq, Bool.not_eq_true, Bool.not_eq_eq_eq_not, Bool.not_true, Bool.not_false, decide_eq_false_iff_not, Decidable.not_not] at hc)) | exact decide_eq_decide.2 Iff.rfl | skip)
      · rcases (show op = 0 ∨ op = 1 ∨ op = 2 ∨ op = 3 ∨ op = 4 by omega) with o | o | o | o | o <;> subst o
        · repeat' (simp [*, -List.getElem_cons_drop, EarlyI] <;> first | (simp only [kC_bool, kG_bool, brk_ite]; split <;> (rename_i hc; try simp only [decide_eq_true_eq, Bool.not_eq_true, Bool.not_eq_eq_eq_not, Bool.not_true, Bool.not_false, decide_eq_false_iff_not, Decidable.not_not] at hc)) | exact decide_eq_decide.2 Iff.rfl | skip)
        · repeat' (simp [*, -List.getElem_cons_drop, EarlyI] <;> first | (simp only [kC_bool, kG_bool, brk_ite]; split <;> (rename_i hc; try simp only [decide_eq_true_eq, Bool.not_eq_true, Bool.not_eq_eq_eq_not, Bool.not_true, Bool.not_false, decide_eq_false_iff_not, Decidable.not_not] at hc)) | exact decide_eq_decide.2 Iff.rfl | skip)
        · obtain ⟨r1, r2⟩ := m3 rfl
          have hr : rule.toNat < g.rules.length := by omega
          have i3 : inRange rule g.rules.length = some rule.toNat := inRange_int r1 r2
          repeat' (simp [*, -List.getElem_cons_drop, EarlyI] <;> first | (simp only [kC_bool, kG_bool, brk_ite]; split <;> (rename_i hc; try simp only [decide_eq_true_eq, Bool.not_eq_true, Bool.not_eq_eq_eq_not, Bool.not_true, Bool.not_false, decide_eq_false_iff_not, Decidable.not_not] at hc)) | exact decide_eq_decide.2 Iff.rfl | skip)
        · repeat' (simp [*, -List.getElem_cons_drop, EarlyI] <;> first | (simp only [kC_bool, kG_bool, brk_ite]; split <;> (rename_i hc; try simp only [decide_eq_true_eq, Bool.not_eq_true, Bool.not_eq_eq_eq_not, Bool.not_true, Bool.not_false, decide_eq_false_iff_not, Decidable.not_not] at hc)) | exact decide_eq_decide.2 Iff.rfl | skip)
        · repeat' (simp [*, -List.getElem_cons_drop, EarlyI] <;> first | (simp only [kC_bool, kG_bool, brk_ite]; split <;> (rename_i hc; try simp only [decide_eq_true_eq, Bool.not_eq_true, Bool.not_eq_eq_eq_not, Bool.not_true, Bool.not_false, decide_eq_false_iff_not, Decidable.not_not] at hc)) | exact decide_eq_decide.2 Iff.rfl | skip)
def checkStp (g : Gram) (x : List UInt8) (l : List Stp) : Nat → Nat → Int
  | 0, _ => -1
  | m + 1, i => if rightF g x l i = true then checkStp g x l m (i + 1) else i
theorem FCheck_lp (hb : bar ≤ T) (hg : g.Ok) (hm : ∀ n ∈ g.nodes, madeF n g.rules.length = true) (hx : x.length ≤ 140737488355327) (hl : ∀ s ∈ l, s.Ok) (hll : l.length ≤ 140737488355327) {o : Obj} :
    ∀ (m i : Nat) (ρ : Env), m + i = l.length → keep [7, 14, 15] ρ = some [(7, .ptr T 1 0 0), (14, .int .i64 l.length), (15, .int .i64 i)] →
    endD (T + 1) [.tmp 6] false (kS PA PS bar (T + 1) (inBlk 0 (PS.lp bar (T + 1) L.ford_Check_0 ρ ([o, .arr [chk g x l]] :: h))) K.ford_Check_0) = some (.int .i64 (checkStp g x l m i), h) := by
  have hb1 : bar ≤ T + 1 := by omega
  intro m
  induction m with
  | zero =>
    intro i ρ hi hk
    have e : ¬ i < l.length := by omega
    clear hi
    rw [P.ford_Check_0, hk]; simp only [B.ford_Check_0]
    repeat' (simp [*, -List.getElem_cons_drop, K.ford_Check_0, checkStp] <;> first | (simp only [kC_bool, kG_bool, brk_ite]; split <;> (rename_i hc; try simp only [decide_eq_true_eq, Bool.not_eq_true, Bool.not_eq_eq_eq_not, Bool.not_true, Bool.not_false, decide_eq_false_iff_not, Decidable.not_not] at hc)) | exact decide_eq_decide.2 Iff.rfl | skip)
  | succ m ih =>
    intro i ρ hi hk
    have e : i < l.length := by omega
    have e1 := wrap_succ e hll
    have hr := fun h => @right_ok bar (T + 1) h g x l hb1 hg hm hx hl i e
    replace ih := fun ρ => ih (i + 1) ρ (by omega)
    clear hi hl hm
    rw [P.ford_Check_0, hk]; simp only [B.ford_Check_0]
    repeat' (simp [*, -List.getElem_cons_drop, checkStp] <;> first | (simp only [kC_bool, kG_bool, brk_ite]; split <;> (rename_i hc; try simp only [decide_eq_true_eq, Bool.not_eq_true, Bool.not_eq_eq_eq_not, Bool.not_true, Bool.not_false, decide_eq_false_iff_not, Decidable.not_not] at hc)) | exact decide_eq_decide.2 Iff.rfl | skip)
theorem FCheck_ok (hb : bar ≤ T) (hg : g.Ok) (hm : ∀ n ∈ g.nodes, madeF n g.rules.length = true) (hx : x.length ≤ 140737488355327) (hl : ∀ s ∈ l, s.Ok) (hll : l.length ≤ 140737488355327) :
    PS.call bar T F.ford_Check [.agg g.cells, .str x, .sl (l.map Stp.cells)] h = some (.int .i64 (checkStp g x l l.length 0), h) := by
  rw [E.ford_Check]
  simp only [C.ford_Check]
  have hb1 : bar ≤ T + 1 := by omega
  have hL := fun o => @FCheck_lp bar T h g x l hb hg hm hx hl hll o l.length 0
  repeat' (simp [*, -List.getElem_cons_drop] <;> first | (simp only [kC_bool, kG_bool, brk_ite]; split <;> (rename_i hc; try simp only [decide_eq_true_eq, Bool.not_eq_true, Bool.not_eq_eq_eq_not, Bool.not_true, Bool.not_false, decide_eq_false_iff_not, Decidable.not_not] at hc)) | exact decide_eq_decide.2 Iff.rfl | skip)
  all_goals (refine Eq.trans (hL _ _ ?_ ?_) ?_ <;> simp)
end AM
/- Derivations: what the functions of the reference implementation of layer 19 compute. -/
namespace AM
open Go
attribute [local simp] opsD_nil opsD_cons kG_true kG_false kO_some kO_none kR_some kR_none kS_normal kS_ret kS_exit kS_none kC_true kC_false kK_some exec_skip exec_reg exec_seq exec_cond exec_blk exec_loop exec_exit exec_ret exec_kp inBlk_normal inBlk_ret inBlk_exit inBlk_none endD_normal endD_ret endD_none
attribute [local simp] opD step wanted guardB lk putE Opd.ev evAll argEnv newO pushO getO setO keep D.cells D.one D.stb D.lvl D.lvl.lvlAll asB asI asArr asMap asStr asAgg ldD faD partD binD binI binS eqD eqL_cons eqL_nil ite_tf ite_bf eqSK unD stD putCells may nckD resD tupD frz frz.frzAll okD iaAD iaSD lenVD lenSD callDD callFn fills extD mxD mnD maxL minL
set_option maxRecDepth 10000
set_option maxHeartbeats 0
set_option linter.unusedSimpArgs false
set_option linter.unusedVariables false
variable {bar T : Nat} {h : Heap}
variable {l : List Stp}
theorem is_ok (s : Stp) (n : Int) (r : Bool) (a : Int) : PS.call bar T F.ref19_is [.agg s.cells, .int .i64 n, .bool r, .int .i64 a] h = some (.bool (s.about.is ⟨n, r, a⟩), h) := by
  rw [E.ref19_is]
  simp only [C.ref19_is]
  repeat' (simp [*, -List.getElem_cons_drop, Clm.is, Stp.about] <;> first | (simp only [kC_bool, kG_bool, brk_ite]; split <;> (rename_i hc; try simp only [decide_eq_true_eq, Bool.not_eq_true, Bool.not_eq_eq_eq_not, Bool.not_true, Bool.not_false, decide_eq_false_iff_not, Decidable.not_not] at hc)) | exact decide_eq_decide.2 Iff.rfl | skip)
  all_goals rfl
def findF (n a : Int) (l : List Stp) (i : Nat) : Int := idxF (fun s => s.about.is ⟨n, false, a⟩) l i
theorem RFind_lp (hl : l.length ≤ 140737488355327) (n a : Int) : ∀ (i : Nat) (ρ : Env), keep [0, 1, 2, 7] ρ = some [(0, .sl (l.map Stp.cells)), (1, .int .i64 n), (2, .int .i64 a), (7, .int .i64 i)] →
    endD (T + 1) [.tmp 6] false (kS PA PS bar (T + 1) (inBlk 0 (PS.lp bar (T + 1) L.ref19_Find_0 ρ ([] :: h))) K.ref19_Find_0) = some (.int .i64 (findF n a (l.drop i) i), h) := by
  refine down l.length fun i ih ρ hk => ?_
  by_cases e : i < l.length
  · replace ih := ih e
    have e1 := wrap_succ e hl
    rw [drop_at e]; rw [P.ref19_Find_0, hk]; simp only [B.ref19_Find_0]
    repeat' (simp [*, -List.getElem_cons_drop, findF, idxF, inRange_nat, is_ok] <;> first | (simp only [kC_bool, kG_bool, brk_ite]; split <;> (rename_i hc; try simp only [decide_eq_true_eq, Bool.not_eq_true, Bool.not_eq_eq_eq_not, Bool.not_true, Bool.not_false, decide_eq_false_iff_not, Decidable.not_not] at hc)) | exact decide_eq_decide.2 Iff.rfl | skip)
  · rw [drop_end e]; rw [P.ref19_Find_0, hk]; simp only [B.ref19_Find_0]
    repeat' (simp [*, -List.getElem_cons_drop, K.ref19_Find_0, findF, idxF] <;> first | (simp only [kC_bool, kG_bool, brk_ite]; split <;> (rename_i hc; try simp only [decide_eq_true_eq, Bool.not_eq_true, Bool.not_eq_eq_eq_not, Bool.not_true, Bool.not_false, decide_eq_false_iff_not, Decidable.not_not] at hc)) | exact decide_eq_decide.2 Iff.rfl | skip)
theorem RFind_ok (hl : l.length ≤ 140737488355327) (n a : Int) : PS.call bar T F.ref19_Find [.sl (l.map Stp.cells), .int .i64 n, .int .i64 a] h = some (.int .i64 (findF n a l 0), h) := by
  rw [E.ref19_Find]
  simp only [C.ref19_Find]
  repeat' (simp [*, -List.getElem_cons_drop] <;> first | (simp only [kC_bool, kG_bool, brk_ite]; split <;> (rename_i hc; try simp only [decide_eq_true_eq, Bool.not_eq_true, Bool.not_eq_eq_eq_not, Bool.not_true, Bool.not_false, decide_eq_false_iff_not, Decidable.not_not] at hc)) | exact decide_eq_decide.2 Iff.rfl | skip)
  refine Eq.trans (RFind_lp hl n a 0 _ ?_) ?_ <;> simp
/-! bits -/
theorem halve_step {w : Int} {k : Nat} : w / 2 / 2 ^ k = w / 2 ^ (k + 1) := by
  rw [Int.ediv_ediv_of_nonneg (by omega), Int.pow_succ, Int.mul_comm]
theorem rHas_lp {c : Nat} (hc : c < 256) {o : List Obj} : ∀ (d i : Nat) (w : Int) (ρ : Env), i + d = c % 64 → 0 ≤ w → w ≤ 18446744073709551615 → keep [1, 5, 6] ρ = some [(1, .int .u8 c), (5, .int .u64 w), (6, .int .i64 i)] →
    endD (T + 1) [.tmp 4] false (kS PA PS bar (T + 1) (inBlk 0 (PS.lp bar (T + 1) L.ref01_Has_0 ρ (o :: h))) K.ref01_Has_0) = some (.bool (decide (w / 2 ^ d % 2 = 1)), h) := by
  have w1 : IntKind.i64.wrap (c : Int) = c := by rw [wrap_i64] <;> omega
  have w2 : (c : Int).tmod 64 = (c : Int) % 64 := Int.tmod_eq_emod_of_nonneg (by omega)
  intro d
  induction d with
  | zero =>
    intro i w ρ hi h0 h1 hk
    have e : ¬ (i : Int) < (c : Int) % 64 := by omega
    have e2 : w.tmod 2 = w % 2 := Int.tmod_eq_emod_of_nonneg h0
    clear hi
    rw [P.ref01_Has_0, hk]; simp only [B.ref01_Has_0]
    repeat' (simp [*, -List.getElem_cons_drop, K.ref01_Has_0] <;> first | (simp only [kC_bool, kG_bool, brk_ite]; split <;> (rename_i hc; try simp only [decide_eq_true_eq, Bool.not_eq_true, Bool.not_eq_eq_eq_not, Bool.not_true, Bool.not_false, decide_eq_false_iff_not, Decidable.not_not] at hc)) | exact decide_eq_decide.2 Iff.rfl | skip)
  | succ d ih =>
    intro i w ρ hi h0 h1 hk
    have e : (i : Int) < (c : Int) % 64 := by omega
    have e1 : IntKind.i64.wrap ((i : Int) + 1) = (i + 1 : Nat) := by rw [wrap_i64] <;> omega
    have e2 : w.tdiv 2 = w / 2 := Int.tdiv_eq_ediv_of_nonneg h0
    have e3 : IntKind.u64.wrap (w / 2) = w / 2 := by rw [wrap_u64] <;> omega
    replace ih := fun ρ => ih (i + 1) (w / 2) ρ (by omega) (by omega) (by omega)
    rw [halve_step] at ih
    clear hi
    rw [P.ref01_Has_0, hk]; simp only [B.ref01_Has_0]
    repeat' (simp [*, -List.getElem_cons_drop] <;> first | (simp only [kC_bool, kG_bool, brk_ite]; split <;> (rename_i hc; try simp only [decide_eq_true_eq, Bool.not_eq_true, Bool.not_eq_eq_eq_not, Bool.not_true, Bool.not_false, decide_eq_false_iff_not, Decidable.not_not] at hc)) | exact decide_eq_decide.2 Iff.rfl | skip)
theorem rHas_ok {s0 s1 s2 s3 : Int} (h0 : 0 ≤ s0 ∧ s0 ≤ 18446744073709551615) (h1 : 0 ≤ s1 ∧ s1 ≤ 18446744073709551615) (h2 : 0 ≤ s2 ∧ s2 ≤ 18446744073709551615) (h3 : 0 ≤ s3 ∧ s3 ≤ 18446744073709551615) {c : Nat} (hc : c < 256) : PS.call bar T F.ref01_Has [.agg [.int .u64 s0, .int .u64 s1, .int .u64 s2, .int .u64 s3], .int .u8 c] h = some (.bool (hasF s0 s1 s2 s3 c), h) := by
  rw [E.ref01_Has]
  simp only [C.ref01_Has]
  have e0 : 0 ≤ setAt s0 s1 s2 s3 c ∧ setAt s0 s1 s2 s3 c ≤ 18446744073709551615 := by unfold setAt; split <;> (try split) <;> (try split) <;> assumption
  have w1 : IntKind.i64.wrap (c : Int) = c := by rw [wrap_i64] <;> omega
  have e1 : IntKind.i64.wrap ((c : Int) / 64) = (c : Int) / 64 := by rw [wrap_i64] <;> omega
  have e3 : inRange ((c : Int) / 64) 4 = some (c / 64) := by
    have := inRange_nat (show c / 64 < 4 by omega)
    rwa [Int.natCast_ediv] at this
  have e4 := setAt_iaA s0 s1 s2 s3 hc
  have e5 : ((c : Int) % 64).toNat = c % 64 := by omega
  have hL := fun o ρ => @rHas_lp bar T h c hc o (c % 64) 0 (setAt s0 s1 s2 s3 c) ρ (by omega) e0.1 e0.2
  clear h0 h1 h2 h3 e0
  repeat' (simp [*, -List.getElem_cons_drop, hasF] <;> first | (simp only [kC_bool, kG_bool, brk_ite]; split <;> (rename_i hc; try simp only [decide_eq_true_eq, Bool.not_eq_true, Bool.not_eq_eq_eq_not, Bool.not_true, Bool.not_false, decide_eq_false_iff_not, Decidable.not_not] at hc)) | exact decide_eq_decide.2 Iff.rfl | skip)
  all_goals (refine Eq.trans (hL _ _ ?_) ?_ <;> simp [e5])
end AM
/- Derivations: repetitions, sequences and choices in the reference implementation of layer 19. -/
namespace AM
open Go
attribute [local simp] opsD_nil opsD_cons kG_true kG_false kO_some kO_none kR_some kR_none kS_normal kS_ret kS_exit kS_none kC_true kC_false kK_some exec_skip exec_reg exec_seq exec_cond exec_blk exec_loop exec_exit exec_ret exec_kp inBlk_normal inBlk_ret inBlk_exit inBlk_none endD_normal endD_ret endD_none
attribute [local simp] opD step wanted guardB lk putE Opd.ev evAll argEnv newO pushO getO setO keep D.cells D.one D.stb D.lvl D.lvl.lvlAll asB asI asArr asMap asStr asAgg ldD faD partD binD binI binS eqD eqL_cons eqL_nil ite_tf ite_bf eqSK unD stD putCells may nckD resD tupD frz frz.frzAll okD iaAD iaSD lenVD lenSD callDD callFn fills extD mxD mnD maxL minL
set_option maxRecDepth 10000
set_option maxHeartbeats 0
set_option linter.unusedSimpArgs false
set_option linter.unusedVariables false
variable {bar T : Nat} {h : Heap}
variable {l : List Stp}
def kidS (l : List Stp) (s : Stp) (k : Nat) : Stp := stpAt l (kidAt s k)
def repF (l : List Stp) (s : Stp) (e : Int) : Bool :=
  if s.kids.length = 2 then (kidS l s 0).about.is ⟨e, false, s.at_⟩ && (decide ((kidS l s 0).end_ ≥ 0) && ((kidS l s 1).about.is ⟨s.node, true, (kidS l s 0).end_⟩ && decide ((kidS l s 1).end_ = s.end_))) else false
theorem repetition_ok (hb : bar ≤ T) {s : Stp} (hs : Early l s.kids) (e : Int) : PS.call bar T F.ref19_repetition [.sl (l.map Stp.cells), .agg s.cells, .int .i64 e] h = some (.bool (repF l s e), h) := by
  rw [E.ref19_repetition]
  simp only [C.ref19_repetition]
  have hb1 : bar ≤ T + 1 := by omega
  by_cases c : s.kids.length = 2
  · obtain ⟨e1, e2⟩ := inRange_at hs (show 0 < s.kids.length by omega)
    obtain ⟨e3, e4⟩ := inRange_at hs (show 1 < s.kids.length by omega)
    repeat' (simp [*, -List.getElem_cons_drop, inRange_zero, inRange_one, is_ok, repF, kidS] <;> first | (simp only [kC_bool, kG_bool, brk_ite]; split <;> (rename_i hc; try simp only [decide_eq_true_eq, Bool.not_eq_true, Bool.not_eq_eq_eq_not, Bool.not_true, Bool.not_false, decide_eq_false_iff_not, Decidable.not_not] at hc)) | exact decide_eq_decide.2 Iff.rfl | skip)
  · have c' : ¬ (s.kids.length : Int) = 2 := by omega
    repeat' (simp [*, -List.getElem_cons_drop, repF] <;> first | (simp only [kC_bool, kG_bool, brk_ite]; split <;> (rename_i hc; try simp only [decide_eq_true_eq, Bool.not_eq_true, Bool.not_eq_eq_eq_not, Bool.not_true, Bool.not_false, decide_eq_false_iff_not, Decidable.not_not] at hc)) | exact decide_eq_decide.2 Iff.rfl | skip)
def sqGo (l : List Stp) (s : Stp) (n : Node) : Nat → Nat → Int → Bool
  | 0, _, a => if a < 0 then decide (s.end_ = -1) && decide (a = -1) else decide (s.kids.length = n.kids.length) && decide (s.end_ = a)
  | m + 1, k, a => if (kidS l s k).about.is ⟨nkAt n k, false, a⟩ = false ∨ (k < s.kids.length - 1 ∧ (kidS l s k).end_ < 0) then false else sqGo l s n m (k + 1) (kidS l s k).end_
def seqF (l : List Stp) (s : Stp) (n : Node) : Bool := if s.kids.length = 0 ∨ s.kids.length > n.kids.length then false else sqGo l s n s.kids.length 0 s.at_
theorem sequence_lp (hb : bar ≤ T) {s : Stp} (hs : Early l s.kids) {n : Node} (hl : s.kids.length ≤ 140737488355327) (h0 : 0 < s.kids.length) (h1 : s.kids.length ≤ n.kids.length) :
    ∀ (m k : Nat) (a : Int) (gs : List Obj) (ρ : Env), m + k = s.kids.length → keep [0, 4, 5, 7, 8, 9] ρ = some [(0, .sl (l.map Stp.cells)), (4, .ptr T 0 0 0), (5, .ptr T 1 0 0), (7, .int .i64 s.kids.length), (8, .int .i64 a), (9, .int .i64 k)] →
    endD (T + 1) [.tmp 6] false (kS PA PS bar (T + 1) (inBlk 0 (PS.lp bar (T + 1) L.ref19_sequence_0 ρ ((.arr [s.cells] :: .arr [n.cells] :: gs) :: h))) K.ref19_sequence_0) = some (.bool (sqGo l s n m k a), h) := by
  have hb1 : bar ≤ T + 1 := by omega
  intro m
  induction m with
  | zero =>
    intro k a gs ρ hm hk
    have e : ¬ k < s.kids.length := by omega
    clear hm
    rw [P.ref19_sequence_0, hk]; simp only [B.ref19_sequence_0]
    repeat' (simp [*, -List.getElem_cons_drop, K.ref19_sequence_0, sqGo, Int.ofNat_inj] <;> first | (simp only [kC_bool, kG_bool, brk_ite]; split <;> (rename_i hc; try simp only [decide_eq_true_eq, Bool.not_eq_true, Bool.not_eq_eq_eq_not, Bool.not_true, Bool.not_false, decide_eq_false_iff_not, Decidable.not_not] at hc)) | exact decide_eq_decide.2 Iff.rfl | skip)
  | succ m ih =>
    intro k a gs ρ hm hk
    have e : k < s.kids.length := by omega
    have e1 := wrap_succ e hl
    have e2 : k < n.kids.length := by omega
    have e3 : IntKind.i64.wrap ((s.kids.length : Int) - 1) = ((s.kids.length - 1 : Nat) : Int) := by rw [wrap_i64] <;> omega
    obtain ⟨e4, e5⟩ := inRange_at hs e
    have e6 : nkAt n k = n.kids[k] := by simp [nkAt, e2]
    replace ih := fun a gs ρ => ih (k + 1) a gs ρ (by omega)
    clear hm h0 h1
    rw [P.ref19_sequence_0, hk]; simp only [B.ref19_sequence_0]
    cases ck : (stpAt l (kidAt s k)).about.is ⟨n.kids[k], false, a⟩ with
    | false => repeat' (simp [*, -List.getElem_cons_drop, inRange_nat, sqGo, is_ok, kidS] <;> first | (simp only [kC_bool, kG_bool, brk_ite]; split <;> (rename_i hc; try simp only [decide_eq_true_eq, Bool.not_eq_true, Bool.not_eq_eq_eq_not, Bool.not_true, Bool.not_false, decide_eq_false_iff_not, Decidable.not_not] at hc)) | exact decide_eq_decide.2 Iff.rfl | skip)
    | true =>
      by_cases c2 : (stpAt l (kidAt s k)).end_ < 0 <;> by_cases c3 : k < s.kids.length - 1
      all_goals (repeat' (simp [*, -List.getElem_cons_drop, inRange_nat, sqGo, is_ok, kidS] <;> first | (simp only [kC_bool, kG_bool, brk_ite]; split <;> (rename_i hc; try simp only [decide_eq_true_eq, Bool.not_eq_true, Bool.not_eq_eq_eq_not, Bool.not_true, Bool.not_false, decide_eq_false_iff_not, Decidable.not_not] at hc)) | exact decide_eq_decide.2 Iff.rfl | skip))
theorem sequence_ok (hb : bar ≤ T) {s : Stp} (hs : Early l s.kids) {n : Node} (hl : s.kids.length ≤ 140737488355327) : PS.call bar T F.ref19_sequence [.sl (l.map Stp.cells), .agg s.cells, .agg n.cells] h = some (.bool (seqF l s n), h) := by
  rw [E.ref19_sequence]
  simp only [C.ref19_sequence]
  by_cases c1 : s.kids.length = 0
  · repeat' (simp [*, -List.getElem_cons_drop, seqF] <;> first | (simp only [kC_bool, kG_bool, brk_ite]; split <;> (rename_i hc; try simp only [decide_eq_true_eq, Bool.not_eq_true, Bool.not_eq_eq_eq_not, Bool.not_true, Bool.not_false, decide_eq_false_iff_not, Decidable.not_not] at hc)) | exact decide_eq_decide.2 Iff.rfl | skip)
  · have c1' : ¬ (s.kids.length : Int) = 0 := by omega
    by_cases c2 : n.kids.length < s.kids.length
    · repeat' (simp [*, -List.getElem_cons_drop, seqF] <;> first | (simp only [kC_bool, kG_bool, brk_ite]; split <;> (rename_i hc; try simp only [decide_eq_true_eq, Bool.not_eq_true, Bool.not_eq_eq_eq_not, Bool.not_true, Bool.not_false, decide_eq_false_iff_not, Decidable.not_not] at hc)) | exact decide_eq_decide.2 Iff.rfl | skip)
    · have hL := @sequence_lp bar T h l hb s hs n hl (by omega) (by omega) s.kids.length 0 s.at_
      simp only [seqF, if_neg (show ¬ (s.kids.length = 0 ∨ s.kids.length > n.kids.length) by omega)]
      repeat' (simp [*, -List.getElem_cons_drop] <;> first | (simp only [kC_bool, kG_bool, brk_ite]; split <;> (rename_i hc; try simp only [decide_eq_true_eq, Bool.not_eq_true, Bool.not_eq_eq_eq_not, Bool.not_true, Bool.not_false, decide_eq_false_iff_not, Decidable.not_not] at hc)) | exact decide_eq_decide.2 Iff.rfl | skip)
      all_goals (refine Eq.trans (hL _ _ ?_ ?_) ?_ <;> simp)
def chGo (l : List Stp) (s : Stp) (n : Node) : Nat → Nat → Bool
  | 0, _ => if (kidS l s (s.kids.length - 1)).end_ ≥ 0 then decide (s.end_ = (kidS l s (s.kids.length - 1)).end_) else decide (s.kids.length = n.kids.length) && decide (s.end_ = -1)
  | m + 1, k => if (kidS l s k).about.is ⟨nkAt n k, false, s.at_⟩ = false ∨ (k < s.kids.length - 1 ∧ (kidS l s k).end_ ≥ 0) then false else chGo l s n m (k + 1)
def choF (l : List Stp) (s : Stp) (n : Node) : Bool := if s.kids.length = 0 ∨ s.kids.length > n.kids.length then false else chGo l s n s.kids.length 0
theorem choice_lp (hb : bar ≤ T) {s : Stp} (hs : Early l s.kids) {n : Node} (hl : s.kids.length ≤ 140737488355327) (h0 : 0 < s.kids.length) (h1 : s.kids.length ≤ n.kids.length) :
    ∀ (m k : Nat) (gs : List Obj) (ρ : Env), m + k = s.kids.length → keep [0, 4, 5, 7, 8] ρ = some [(0, .sl (l.map Stp.cells)), (4, .ptr T 0 0 0), (5, .ptr T 1 0 0), (7, .int .i64 s.kids.length), (8, .int .i64 k)] →
    endD (T + 1) [.tmp 6] false (kS PA PS bar (T + 1) (inBlk 0 (PS.lp bar (T + 1) L.ref19_choice_0 ρ ((.arr [s.cells] :: .arr [n.cells] :: gs) :: h))) K.ref19_choice_0) = some (.bool (chGo l s n m k), h) := by
  have hb1 : bar ≤ T + 1 := by omega
  have e3 : IntKind.i64.wrap ((s.kids.length : Int) - 1) = ((s.kids.length - 1 : Nat) : Int) := by rw [wrap_i64] <;> omega
  intro m
  induction m with
  | zero =>
    intro k gs ρ hm hk
    have e : ¬ k < s.kids.length := by omega
    have e2 : s.kids.length - 1 < s.kids.length := by omega
    have e7 := inRange_nat e2
    obtain ⟨e4, e5⟩ := inRange_at hs e2
    clear hm
    rw [P.ref19_choice_0, hk]; simp only [B.ref19_choice_0]
    repeat' (simp [*, -List.getElem_cons_drop, K.ref19_choice_0, chGo, Int.ofNat_inj, kidS] <;> first | (simp only [kC_bool, kG_bool, brk_ite]; split <;> (rename_i hc; try simp only [decide_eq_true_eq, Bool.not_eq_true, Bool.not_eq_eq_eq_not, Bool.not_true, Bool.not_false, decide_eq_false_iff_not, Decidable.not_not] at hc)) | exact decide_eq_decide.2 Iff.rfl | skip)
  | succ m ih =>
    intro k gs ρ hm hk
    have e : k < s.kids.length := by omega
    have e1 := wrap_succ e hl
    have e2 : k < n.kids.length := by omega
    obtain ⟨e4, e5⟩ := inRange_at hs e
    have e6 : nkAt n k = n.kids[k] := by simp [nkAt, e2]
    replace ih := fun gs ρ => ih (k + 1) gs ρ (by omega)
    clear hm h0 h1
    rw [P.ref19_choice_0, hk]; simp only [B.ref19_choice_0]
    cases ck : (stpAt l (kidAt s k)).about.is ⟨n.kids[k], false, s.at_⟩ with
    | false => repeat' (simp [*, -List.getElem_cons_drop, inRange_nat, chGo, is_ok, kidS] <;> first | (simp only [kC_bool, kG_bool, brk_ite]; split <;> (rename_i hc; try simp only [decide_eq_true_eq, Bool.not_eq_true, Bool.not_eq_eq_eq_not, Bool.not_true, Bool.not_false, decide_eq_false_iff_not, Decidable.not_not] at hc)) | exact decide_eq_decide.2 Iff.rfl | skip)
    | true =>
      by_cases c2 : 0 ≤ (stpAt l (kidAt s k)).end_ <;> by_cases c3 : k < s.kids.length - 1
      all_goals (repeat' (simp [*, -List.getElem_cons_drop, inRange_nat, chGo, is_ok, kidS] <;> first | (simp only [kC_bool, kG_bool, brk_ite]; split <;> (rename_i hc; try simp only [decide_eq_true_eq, Bool.not_eq_true, Bool.not_eq_eq_eq_not, Bool.not_true, Bool.not_false, decide_eq_false_iff_not, Decidable.not_not] at hc)) | exact decide_eq_decide.2 Iff.rfl | skip))
theorem choice_ok (hb : bar ≤ T) {s : Stp} (hs : Early l s.kids) {n : Node} (hl : s.kids.length ≤ 140737488355327) : PS.call bar T F.ref19_choice [.sl (l.map Stp.cells), .agg s.cells, .agg n.cells] h = some (.bool (choF l s n), h) := by
  rw [E.ref19_choice]
  simp only [C.ref19_choice]
  by_cases c1 : s.kids.length = 0
  · repeat' (simp [*, -List.getElem_cons_drop, choF] <;> first | (simp only [kC_bool, kG_bool, brk_ite]; split <;> (rename_i hc; try simp only [decide_eq_true_eq, Bool.not_eq_true, Bool.not_eq_eq_eq_not, Bool.not_true, Bool.not_false, decide_eq_false_iff_not, Decidable.not_not] at hc)) | exact decide_eq_decide.2 Iff.rfl | skip)
  · have c1' : ¬ (s.kids.length : Int) = 0 := by omega
    by_cases c2 : n.kids.length < s.kids.length
    · repeat' (simp [*, -List.getElem_cons_drop, choF] <;> first | (simp only [kC_bool, kG_bool, brk_ite]; split <;> (rename_i hc; try simp only [decide_eq_true_eq, Bool.not_eq_true, Bool.not_eq_eq_eq_not, Bool.not_true, Bool.not_false, decide_eq_false_iff_not, Decidable.not_not] at hc)) | exact decide_eq_decide.2 Iff.rfl | skip)
    · have hL := @choice_lp bar T h l hb s hs n hl (by omega) (by omega) s.kids.length 0
      simp only [choF, if_neg (show ¬ (s.kids.length = 0 ∨ s.kids.length > n.kids.length) by omega)]
      repeat' (simp [*, -List.getElem_cons_drop] <;> first | (simp only [kC_bool, kG_bool, brk_ite]; split <;> (rename_i hc; try simp only [decide_eq_true_eq, Bool.not_eq_true, Bool.not_eq_eq_eq_not, Bool.not_true, Bool.not_false, decide_eq_false_iff_not, Decidable.not_not] at hc)) | exact decide_eq_decide.2 Iff.rfl | skip)
      all_goals (refine Eq.trans (hL _ _ ?_ ?_) ?_ <;> simp)
end AM
/- Derivations: the check of steps by the reference implementation of layer 19. -/
namespace AM
open Go
attribute [local simp] opsD_nil opsD_cons kG_true kG_false kO_some kO_none kR_some kR_none kS_normal kS_ret kS_exit kS_none kC_true kC_false kK_some exec_skip exec_reg exec_seq exec_cond exec_blk exec_loop exec_exit exec_ret exec_kp inBlk_normal inBlk_ret inBlk_exit inBlk_none endD_normal endD_ret endD_none
attribute [local simp] opD step wanted guardB lk putE Opd.ev evAll argEnv newO pushO getO setO keep D.cells D.one D.stb D.lvl D.lvl.lvlAll asB asI asArr asMap asStr asAgg ldD faD partD binD binI binS eqD eqL_cons eqL_nil ite_tf ite_bf eqSK unD stD putCells may nckD resD tupD frz frz.frzAll okD iaAD iaSD lenVD lenSD callDD callFn fills extD mxD mnD maxL minL
set_option maxRecDepth 10000
set_option maxHeartbeats 0
set_option linter.unusedSimpArgs false
set_option linter.unusedVariables false
variable {bar T : Nat} {h : Heap}
variable {g : Gram} {x : List UInt8} {l : List Stp}
theorem rHas_b {s0 s1 s2 s3 : Int} (h0 : 0 ≤ s0 ∧ s0 ≤ 18446744073709551615) (h1 : 0 ≤ s1 ∧ s1 ≤ 18446744073709551615) (h2 : 0 ≤ s2 ∧ s2 ≤ 18446744073709551615) (h3 : 0 ≤ s3 ∧ s3 ≤ 18446744073709551615) (c : UInt8) : PS.call bar T F.ref01_Has [.agg [.int .u64 s0, .int .u64 s1, .int .u64 s2, .int .u64 s3], .int .u8 c.toNat] h = some (.bool (hasF s0 s1 s2 s3 c.toNat), h) := rHas_ok h0 h1 h2 h3 c.toNat_lt
def frst (l : List Stp) (s : Stp) : Stp := if s.kids.length > 0 then kidS l s 0 else stp0
def rtF (g : Gram) (x : List UInt8) (l : List Stp) (s : Stp) (n : Node) : Bool :=
  if s.rest = true then (if ¬ n.op = 5 ∧ ¬ n.op = 6 then false else
    (decide (s.kids.length = 1) && ((frst l s).about.is ⟨nkAt n 0, false, s.at_⟩ && (decide ((frst l s).end_ < 0) && decide (s.end_ = s.at_)))) || repF l s (nkAt n 0))
  else if n.op = 0 then decide (s.kids.length = 0) && decide (s.end_ = s.at_)
  else if n.op = 1 then (if ((x[s.at_.toNat]?).map fun c => hasF n.s0 n.s1 n.s2 n.s3 c.toNat).getD false = true then decide (s.kids.length = 0) && decide (s.end_ = s.at_ + 1) else decide (s.kids.length = 0) && decide (s.end_ = -1))
  else if n.op = 2 then decide (s.kids.length = 1) && ((frst l s).about.is ⟨((g.rules[n.rule.toNat]?).map Rule.root).getD 0, false, s.at_⟩ && decide (s.end_ = (frst l s).end_))
  else if n.op = 3 then seqF l s n
  else if n.op = 4 then choF l s n
  else if n.op = 5 then decide (s.kids.length = 1) && ((frst l s).about.is ⟨s.node, true, s.at_⟩ && decide (s.end_ = (frst l s).end_))
  else if n.op = 6 then (decide (s.kids.length = 1) && ((frst l s).about.is ⟨nkAt n 0, false, s.at_⟩ && (decide ((frst l s).end_ < 0) && decide (s.end_ = -1)))) || repF l s (nkAt n 0)
  else if ¬ s.kids.length = 1 ∨ (frst l s).about.is ⟨nkAt n 0, false, s.at_⟩ = false then false
  else if n.op = 7 then (decide ((frst l s).end_ < 0) && decide (s.end_ = s.at_)) || (decide ((frst l s).end_ ≥ 0) && decide (s.end_ = (frst l s).end_))
  else if n.op = 8 then (decide ((frst l s).end_ < 0) && decide (s.end_ = -1)) || (decide ((frst l s).end_ ≥ 0) && decide (s.end_ = s.at_))
  else (decide ((frst l s).end_ < 0) && decide (s.end_ = s.at_)) || (decide ((frst l s).end_ ≥ 0) && decide (s.end_ = -1))
def RightF (g : Gram) (x : List UInt8) (l : List Stp) (i : Nat) : Bool :=
  let s := stpAt l i
  if s.node < 0 ∨ s.node ≥ g.nodes.length ∨ s.at_ < 0 ∨ s.at_ > x.length then false else
  if anyL (fun k => decide (k < 0) || decide (k ≥ (i : Int))) s.kids = true then false else
  match g.nodes[s.node.toNat]? with
  | none => false
  | some n => rtF g x l s n
theorem RK (hb : bar ≤ T) (hg : g.Ok) (hx : x.length ≤ 140737488355327) {s : Stp} (hl : s.kids.length ≤ 140737488355327) (hs : Early l s.kids) {nd : Nat} (hnd : s.node = nd) {n : Node} (hn : g.nodes[nd]? = some n) (hmade : madeF n g.rules.length = true) (h0 : 0 ≤ s.at_) (h1 : s.at_ ≤ x.length) {ρ : Env} (r1 : lk ρ 1 = some (.str x)) (r2 : lk ρ 2 = some (.sl (l.map Stp.cells))) (r4 : lk ρ 4 = some (.ptr T 0 0 0)) (r9 : lk ρ 9 = some (.ptr T 1 0 0)) :
    endD (T + 1) [.tmp 8] false (exec PA PS bar (T + 1) K.ref19_Right_0 ρ ([.arr [g.cells], .arr [s.cells]] :: h)) = some (.bool (rtF g x l s n), h) := by
  have hb1 : bar ≤ T + 1 := by omega
  obtain ⟨m1, m2, m3, m4⟩ := madeF_facts hmade
  have hno := hg.nodes _ (List.mem_of_getElem? hn)
  obtain ⟨node, rest, at_, end_, kids⟩ := s
  obtain ⟨p, rfl⟩ := Int.eq_ofNat_of_zero_le h0
  simp only at hnd h1 hs hl
  subst hnd
  have wp : IntKind.i64.wrap ((p : Int) + 1) = (p : Int) + 1 := by rw [wrap_i64] <;> omega
  have hlt : nd < g.nodes.length := by
    rcases Nat.lt_or_ge nd g.nodes.length with h | h
    · exact h
    · rw [List.getElem?_eq_none h] at hn; cases hn
  have hn' : g.nodes[nd] = n := by rw [List.getElem?_eq_getElem hlt] at hn; simpa using hn
  obtain ⟨op, nk, rule, s0, s1, s2, s3⟩ := n
  obtain ⟨_, _, _, _, q0, q1, q2, q3⟩ := hno
  simp only at m1 m2 m3 m4 q0 q1 q2 q3
  have f1 := fun T h r => @rHas_b bar T h s0 s1 s2 s3 q0 q1 q2 q3 r
  have f2 := fun T h (hb : bar ≤ T) r e => @repetition_ok bar T h l hb ⟨nd, r, p, end_, kids⟩ hs e
  have f3 := fun T h (hb : bar ≤ T) r op => @sequence_ok bar T h l hb ⟨nd, r, p, end_, kids⟩ hs ⟨op, nk, rule, s0, s1, s2, s3⟩ hl
  have f4 := fun T h (hb : bar ≤ T) r op => @choice_ok bar T h l hb ⟨nd, r, p, end_, kids⟩ hs ⟨op, nk, rule, s0, s1, s2, s3⟩ hl
  have hfr : (hk : 0 < kids.length) → inRange kids[0] l.length = some kids[0].toNat ∧ l[kids[0].toNat]? = some (frst l ⟨nd, rest, p, end_, kids⟩) ∧ kids[0].toNat < l.length := fun hk => by
    obtain ⟨e1, e2⟩ := @inRange_at l ⟨nd, rest, p, end_, kids⟩ hs 0 hk
    have e3 := hs _ (List.getElem_mem hk)
    exact ⟨e1, by simp only [frst, gt_iff_lt, if_pos hk]; exact e2, by omega⟩
  clear hs hg hmade hn h0 hx q0 q1 q2 q3
  obtain ⟨y, hy⟩ : ∃ y, frst l ⟨nd, rest, p, end_, kids⟩ = y := ⟨_, rfl⟩
  have y1 := fun T h n r a => @is_ok bar T h y n r a
  rw [hy] at hfr
  simp only [K.ref19_Right_0]
  rcases (show op = 0 ∨ op = 1 ∨ op = 2 ∨ op = 3 ∨ op = 4 ∨ op = 5 ∨ op = 6 ∨ op = 7 ∨ op = 8 ∨ op = 9 by omega) with o | o | o | o | o | o | o | o | o | o
  all_goals subst o
  case' inr.inr.inl => obtain ⟨r1', r2'⟩ := m3 rfl
  case' inr.inr.inl => have i3 : inRange rule g.rules.length = some rule.toNat := inRange_int r1' r2'
  case' inr.inr.inl => have i4 : rule.toNat < g.rules.length := by omega
  case' inr.inr.inr.inr.inr.inl => obtain ⟨k, rfl⟩ := List.length_eq_one_iff.1 (m4 (by omega))
  case' inr.inr.inr.inr.inr.inr.inl => obtain ⟨k, rfl⟩ := List.length_eq_one_iff.1 (m4 (by omega))
  case' inr.inr.inr.inr.inr.inr.inr.inl => obtain ⟨k, rfl⟩ := List.length_eq_one_iff.1 (m4 (by omega))
  case' inr.inr.inr.inr.inr.inr.inr.inr.inl => obtain ⟨k, rfl⟩ := List.length_eq_one_iff.1 (m4 (by omega))
  case' inr.inr.inr.inr.inr.inr.inr.inr.inr => obtain ⟨k, rfl⟩ := List.length_eq_one_iff.1 (m4 (by omega))
  all_goals
    clear m1 m2 m3 m4
    cases kids with
    | nil => cases rest <;> repeat' (simp [*, -List.getElem_cons_drop, rtF, inRange_nat, inRange_zero, nkAt] <;> first | (simp only [kC_bool, kG_bool, brk_ite]; split <;> (rename_i hc; try simp only [decide_eq_true_eq, Bool.not_eq_true, Bool.not_eq_eq_eq_not, Bool.not_true, Bool.not_false, decide_eq_false_iff_not, Decidable.not_not] at hc)) | exact decide_eq_decide.2 Iff.rfl | skip)
    | cons k0 kids =>
      obtain ⟨z1, z2, z3⟩ := hfr (by simp)
      simp only [List.getElem_cons_zero] at z1 z2 z3
      rw [List.getElem?_eq_getElem z3, Option.some.injEq] at z2
      clear hfr
      cases kids with
      | nil => cases rest <;> repeat' (simp [*, -List.getElem_cons_drop, rtF, inRange_nat, inRange_zero, nkAt] <;> first | (simp only [kC_bool, kG_bool, brk_ite]; split <;> (rename_i hc; try simp only [decide_eq_true_eq, Bool.not_eq_true, Bool.not_eq_eq_eq_not, Bool.not_true, Bool.not_false, decide_eq_false_iff_not, Decidable.not_not] at hc)) | exact decide_eq_decide.2 Iff.rfl | skip)
      | cons k1 kids =>
        have z4 : ¬ (kids.length : Int) + 1 + 1 = 0 := by omega
        have z5 : ¬ (kids.length : Int) + 1 + 1 = 1 := by omega
        cases rest <;> repeat' (simp [*, -List.getElem_cons_drop, rtF, inRange_nat, inRange_zero, nkAt] <;> first | (simp only [kC_bool, kG_bool, brk_ite]; split <;> (rename_i hc; try simp only [decide_eq_true_eq, Bool.not_eq_true, Bool.not_eq_eq_eq_not, Bool.not_true, Bool.not_false, decide_eq_false_iff_not, Decidable.not_not] at hc)) | exact decide_eq_decide.2 Iff.rfl | skip)
end AM
/- Derivations: steps are copied; small inputs. -/
namespace AM
open Go
attribute [local simp] opsD_nil opsD_cons kG_true kG_false kO_some kO_none kR_some kR_none kS_normal kS_ret kS_exit kS_none kC_true kC_false kK_some exec_skip exec_reg exec_seq exec_cond exec_blk exec_loop exec_exit exec_ret exec_kp inBlk_normal inBlk_ret inBlk_exit inBlk_none endD_normal endD_ret endD_none
attribute [local simp] opD step wanted guardB lk putE Opd.ev evAll argEnv newO pushO getO setO keep D.cells D.one D.stb D.lvl D.lvl.lvlAll asB asI asArr asMap asStr asAgg ldD faD partD binD binI binS eqD eqL_cons eqL_nil ite_tf ite_bf eqSK unD stD putCells may nckD resD tupD frz frz.frzAll okD iaAD iaSD lenVD lenSD callDD callFn fills extD mxD mnD maxL minL
set_option maxRecDepth 10000
set_option maxHeartbeats 0
set_option linter.unusedSimpArgs false
set_option linter.unusedVariables false
variable {bar T : Nat} {h : Heap}
variable {g : Gram} {x : List UInt8} {l : List Stp}
theorem plainStp (T n : Nat) (h : Heap) : ∀ row ∈ l.map Stp.cells, frz.frzAll T h (n + 1) row = some row ∧ D.lvl.lvlAll row = 0 := by
  intro row hr
  obtain ⟨s, _, rfl⟩ := List.mem_map.1 hr
  constructor
  · simp
  · simp
theorem steps_lp (hb : bar ≤ T) (hl : l.length ≤ 500) : ∀ (i : Nat) (f : List Obj) (d : D) (ρ : Env), Built T f 5 d ((l.take i).map Stp.cells) → i ≤ l.length → keep [0, 3, 4] ρ = some [(0, .sl (l.map Stp.cells)), (3, d), (4, .int .i64 i)] →
    endD (T + 1) [.tmp 2] false (kS PA PS bar (T + 1) (inBlk 0 (PS.lp bar (T + 1) L.law19_steps_0 ρ (f :: h))) K.law19_steps_0) = some (.sl (l.map Stp.cells), h) := by
  refine down l.length fun i ih f d ρ hB hi hk => ?_
  have hb1 : bar ≤ T + 1 := by omega
  by_cases e : i < l.length
  · replace ih := ih e
    have e1 := wrap_succ e (by omega)
    have hB1 := hB.push (.arr [l[i].cells])
    obtain ⟨f', d', h1, h2, _, _⟩ := hB1.app (bar := bar) (bytes := 56) (lv := 0) (h := h) (new := [l[i].cells]) hb (by simp) (by simp [rowsOk]) (by omega) (by simp; omega)
    have e2 : (l.take i).map Stp.cells ++ [l[i].cells] = (l.take (i + 1)).map Stp.cells := by rw [List.take_succ_eq_append_getElem e, List.map_append]; rfl
    rw [e2] at h2
    clear hB hB1 e2 hi
    rw [P.law19_steps_0, hk]; simp only [B.law19_steps_0]
    repeat' (simp [*, -List.getElem_cons_drop, inRange_nat, fillEs, lvlEs, elems, lvlOf] <;> first | (simp only [kC_bool, kG_bool, brk_ite]; split <;> (rename_i hc; try simp only [decide_eq_true_eq, Bool.not_eq_true, Bool.not_eq_eq_eq_not, Bool.not_true, Bool.not_false, decide_eq_false_iff_not, Decidable.not_not] at hc)) | exact decide_eq_decide.2 Iff.rfl | skip)
    all_goals (refine ih _ _ _ h2 ?_ ?_ <;> first | omega | simp)
  · have hi : i = l.length := by omega
    subst hi
    rw [List.take_length] at hB
    have hz := hB.frz (h := h) (n := 49) (plainStp _ _ _)
    clear hB ih
    rw [P.law19_steps_0, hk]; simp only [B.law19_steps_0]
    repeat' (simp [*, -List.getElem_cons_drop, K.law19_steps_0, tupD] <;> first | (simp only [kC_bool, kG_bool, brk_ite]; split <;> (rename_i hc; try simp only [decide_eq_true_eq, Bool.not_eq_true, Bool.not_eq_eq_eq_not, Bool.not_true, Bool.not_false, decide_eq_false_iff_not, Decidable.not_not] at hc)) | exact decide_eq_decide.2 Iff.rfl | skip)
theorem steps_ok (hb : bar ≤ T) (hl : l.length ≤ 500) : PS.call bar T F.law19_steps [.sl (l.map Stp.cells)] h = some (.sl (l.map Stp.cells), h) := by
  rw [E.law19_steps]
  simp only [C.law19_steps]
  have hL := fun ρ => @steps_lp bar T h l hb hl 0 [] .nil ρ .nil (by omega)
  repeat' (simp [*, -List.getElem_cons_drop] <;> first | (simp only [kC_bool, kG_bool, brk_ite]; split <;> (rename_i hc; try simp only [decide_eq_true_eq, Bool.not_eq_true, Bool.not_eq_eq_eq_not, Bool.not_true, Bool.not_false, decide_eq_false_iff_not, Decidable.not_not] at hc)) | exact decide_eq_decide.2 Iff.rfl | skip)
/-! small inputs -/
def fewL (g : Gram) (x : List UInt8) (l : List Stp) : Bool := allL (fun s => !decide ((s.kids.length : Int) > 60)) l && (smallF g && (decide (x.length ≤ 60) && decide (l.length ≤ 500)))
theorem few_lp (hg : g.Ok) (hl : l.length ≤ 140737488355327) : ∀ (i : Nat) (ρ : Env), keep [1, 2, 3, 7] ρ = some [(1, .str x), (2, .sl (l.map Stp.cells)), (3, .ptr T 0 0 0), (7, .int .i64 i)] →
    endD (T + 1) [.tmp 6] false (kS PA PS bar (T + 1) (inBlk 0 (PS.lp bar (T + 1) L.law19_few_0 ρ ([.arr [g.cells]] :: h))) K.law19_few_0) = some (.bool (allL (fun s => !decide ((s.kids.length : Int) > 60)) (l.drop i) && (smallF g && (decide (x.length ≤ 60) && decide (l.length ≤ 500)))), h) := by
  refine down l.length fun i ih ρ hk => ?_
  by_cases e : i < l.length
  · replace ih := ih e
    have e1 := wrap_succ e (by omega)
    rw [drop_at e]; rw [P.law19_few_0, hk]; simp only [B.law19_few_0]
    repeat' (simp [*, -List.getElem_cons_drop, inRange_nat] <;> first | (simp only [kC_bool, kG_bool, brk_ite]; split <;> (rename_i hc; try simp only [decide_eq_true_eq, Bool.not_eq_true, Bool.not_eq_eq_eq_not, Bool.not_true, Bool.not_false, decide_eq_false_iff_not, Decidable.not_not] at hc)) | exact decide_eq_decide.2 Iff.rfl | skip)
  · rw [drop_end e]; rw [P.law19_few_0, hk]; simp only [B.law19_few_0]
    have e1 : decide ((x.length : Int) ≤ 60) = decide (x.length ≤ 60) := by simp; omega
    have e2 : decide ((l.length : Int) ≤ 500) = decide (l.length ≤ 500) := by simp; omega
    repeat' (simp [*, -List.getElem_cons_drop, K.law19_few_0, Small_ok hg] <;> first | (simp only [kC_bool, kG_bool, brk_ite]; split <;> (rename_i hc; try simp only [decide_eq_true_eq, Bool.not_eq_true, Bool.not_eq_eq_eq_not, Bool.not_true, Bool.not_false, decide_eq_false_iff_not, Decidable.not_not] at hc)) | exact decide_eq_decide.2 Iff.rfl | skip)
    all_goals (simp at *; omega)
theorem few_ok (hg : g.Ok) (hl : l.length ≤ 140737488355327) : PS.call bar T F.law19_few [.agg g.cells, .str x, .sl (l.map Stp.cells)] h = some (.bool (fewL g x l), h) := by
  rw [E.law19_few]
  simp only [C.law19_few]
  have hL := fun ρ => @few_lp bar T h g x l hg hl 0 ρ
  rw [List.drop_zero] at hL
  repeat' (simp [*, -List.getElem_cons_drop, fewL] <;> first | (simp only [kC_bool, kG_bool, brk_ite]; split <;> (rename_i hc; try simp only [decide_eq_true_eq, Bool.not_eq_true, Bool.not_eq_eq_eq_not, Bool.not_true, Bool.not_false, decide_eq_false_iff_not, Decidable.not_not] at hc)) | exact decide_eq_decide.2 Iff.rfl | skip)
end AM
/- Derivations: the check of steps and the search for one, by both. -/
namespace AM
open Go
attribute [local simp] opsD_nil opsD_cons kG_true kG_false kO_some kO_none kR_some kR_none kS_normal kS_ret kS_exit kS_none kC_true kC_false kK_some exec_skip exec_reg exec_seq exec_cond exec_blk exec_loop exec_exit exec_ret exec_kp inBlk_normal inBlk_ret inBlk_exit inBlk_none endD_normal endD_ret endD_none
attribute [local simp] opD step wanted guardB lk putE Opd.ev evAll argEnv newO pushO getO setO keep D.cells D.one D.stb D.lvl D.lvl.lvlAll asB asI asArr asMap asStr asAgg ldD faD partD binD binI binS eqD eqL_cons eqL_nil ite_tf ite_bf eqSK unD stD putCells may nckD resD tupD frz frz.frzAll okD iaAD iaSD lenVD lenSD callDD callFn fills extD mxD mnD maxL minL
set_option maxRecDepth 10000
set_option maxHeartbeats 0
set_option linter.unusedSimpArgs false
set_option linter.unusedVariables false
variable {bar T : Nat} {h : Heap}
variable {g : Gram} {x : List UInt8} {l : List Stp}
abbrev badK (i : Nat) : Int → Bool := fun k => decide (k < 0) || decide (k ≥ (i : Int))
theorem early_any {s : Stp} {i : Nat} (h : anyL (badK i) s.kids = false) (hi : i ≤ l.length) : Early l s.kids := by
  intro k hk
  have : ∀ {ks : List Int}, anyL (badK i) ks = false → k ∈ ks → 0 ≤ k ∧ k < i := by
    intro ks
    induction ks with
    | nil => intro _ h; cases h
    | cons a ks ih =>
      intro h1 h2
      simp only [anyL_cons, Bool.or_eq_false_iff, decide_eq_false_iff_not] at h1
      rcases List.mem_cons.1 h2 with rfl | h2
      · omega
      · exact ih h1.2 h2
  have := this h hk
  omega
theorem Right_lp (hb : bar ≤ T) (hg : g.Ok) (hx : x.length ≤ 140737488355327) {s : Stp} (hl : s.kids.length ≤ 140737488355327) {i : Nat} (hi : i ≤ l.length) {nd : Nat} (hnd : s.node = nd) {n : Node} (hn : g.nodes[nd]? = some n) (hmade : madeF n g.rules.length = true) (h0 : 0 ≤ s.at_) (h1 : s.at_ ≤ x.length) :
    ∀ (j : Nat) (ρ : Env), anyL (badK i) s.kids = anyL (badK i) (s.kids.drop j) → keep [1, 2, 3, 4, 9, 10] ρ = some [(1, .str x), (2, .sl (l.map Stp.cells)), (3, .int .i64 i), (4, .ptr T 0 0 0), (9, .ptr T 1 0 0), (10, .int .i64 j)] →
    endD (T + 1) [.tmp 8] false (kS PA PS bar (T + 1) (inBlk 0 (PS.lp bar (T + 1) L.ref19_Right_0 ρ ([.arr [g.cells], .arr [s.cells]] :: h))) K.ref19_Right_0) = some (.bool (if anyL (badK i) s.kids = true then false else rtF g x l s n), h) := by
  refine down s.kids.length fun j ih ρ hj hk => ?_
  by_cases e : j < s.kids.length
  · replace ih := ih e
    have e1 := wrap_succ e hl
    rw [drop_at e] at hj
    rw [P.ref19_Right_0, hk]; simp only [B.ref19_Right_0]
    by_cases c1 : s.kids[j] < 0
    · have hj' : anyL (badK i) s.kids = true := by rw [hj, anyL_cons]; simp [c1]
      clear hj ih hn hmade hg h0 h1
      repeat' (simp [*, -List.getElem_cons_drop, inRange_nat] <;> first | (simp only [kC_bool, kG_bool, brk_ite]; split <;> (rename_i hc; try simp only [decide_eq_true_eq, Bool.not_eq_true, Bool.not_eq_eq_eq_not, Bool.not_true, Bool.not_false, decide_eq_false_iff_not, Decidable.not_not] at hc)) | exact decide_eq_decide.2 Iff.rfl | skip)
    · by_cases c2 : (i : Int) ≤ s.kids[j]
      · have hj' : anyL (badK i) s.kids = true := by rw [hj, anyL_cons]; simp [c2]
        clear hj ih hn hmade hg h0 h1
        repeat' (simp [*, -List.getElem_cons_drop, inRange_nat] <;> first | (simp only [kC_bool, kG_bool, brk_ite]; split <;> (rename_i hc; try simp only [decide_eq_true_eq, Bool.not_eq_true, Bool.not_eq_eq_eq_not, Bool.not_true, Bool.not_false, decide_eq_false_iff_not, Decidable.not_not] at hc)) | exact decide_eq_decide.2 Iff.rfl | skip)
      · have hj' : anyL (badK i) s.kids = anyL (badK i) (s.kids.drop (j + 1)) := by rw [hj, anyL_cons]; simp [c1, c2]
        replace ih := fun ρ => ih ρ hj'
        clear hj hj' hn hmade hg h0 h1
        repeat' (simp [*, -List.getElem_cons_drop, inRange_nat] <;> first | (simp only [kC_bool, kG_bool, brk_ite]; split <;> (rename_i hc; try simp only [decide_eq_true_eq, Bool.not_eq_true, Bool.not_eq_eq_eq_not, Bool.not_true, Bool.not_false, decide_eq_false_iff_not, Decidable.not_not] at hc)) | exact decide_eq_decide.2 Iff.rfl | skip)
  · rw [drop_end e, anyL_nil] at hj
    rw [hj]
    have hE := early_any hj hi
    have hR := fun ρ => @RK bar T h g x l hb hg hx s hl hE nd hnd n hn hmade h0 h1 ρ
    clear hj ih hn hmade hg h0 h1
    rw [P.ref19_Right_0, hk]; simp only [B.ref19_Right_0]
    repeat' (simp [*, -List.getElem_cons_drop] <;> first | (simp only [kC_bool, kG_bool, brk_ite]; split <;> (rename_i hc; try simp only [decide_eq_true_eq, Bool.not_eq_true, Bool.not_eq_eq_eq_not, Bool.not_true, Bool.not_false, decide_eq_false_iff_not, Decidable.not_not] at hc)) | exact decide_eq_decide.2 Iff.rfl | skip)
    all_goals (refine Eq.trans (hR _ ?_ ?_ ?_ ?_) ?_ <;> simp)
theorem Right_ok (hb : bar ≤ T) (hg : g.Ok) (hm : ∀ n ∈ g.nodes, madeF n g.rules.length = true) (hx : x.length ≤ 140737488355327) (hl : ∀ s ∈ l, s.Ok) {i : Nat} (hi : i < l.length) :
    PS.call bar T F.ref19_Right [.agg g.cells, .str x, .sl (l.map Stp.cells), .int .i64 i] h = some (.bool (RightF g x l i), h) := by
  have hb1 : bar ≤ T + 1 := by omega
  have hsk := (hl _ (List.getElem_mem hi)).len
  have hst : stpAt l i = l[i] := by simp [stpAt, hi]
  rw [E.ref19_Right]
  simp only [C.ref19_Right]
  simp only [RightF, hst]
  by_cases d1 : l[i].node < 0
  · repeat' (simp [*, -List.getElem_cons_drop, inRange_nat] <;> first | (simp only [kC_bool, kG_bool, brk_ite]; split <;> (rename_i hc; try simp only [decide_eq_true_eq, Bool.not_eq_true, Bool.not_eq_eq_eq_not, Bool.not_true, Bool.not_false, decide_eq_false_iff_not, Decidable.not_not] at hc)) | exact decide_eq_decide.2 Iff.rfl | skip)
  by_cases d2 : (g.nodes.length : Int) ≤ l[i].node
  · repeat' (simp [*, -List.getElem_cons_drop, inRange_nat] <;> first | (simp only [kC_bool, kG_bool, brk_ite]; split <;> (rename_i hc; try simp only [decide_eq_true_eq, Bool.not_eq_true, Bool.not_eq_eq_eq_not, Bool.not_true, Bool.not_false, decide_eq_false_iff_not, Decidable.not_not] at hc)) | exact decide_eq_decide.2 Iff.rfl | skip)
  by_cases d3 : l[i].at_ < 0
  · repeat' (simp [*, -List.getElem_cons_drop, inRange_nat] <;> first | (simp only [kC_bool, kG_bool, brk_ite]; split <;> (rename_i hc; try simp only [decide_eq_true_eq, Bool.not_eq_true, Bool.not_eq_eq_eq_not, Bool.not_true, Bool.not_false, decide_eq_false_iff_not, Decidable.not_not] at hc)) | exact decide_eq_decide.2 Iff.rfl | skip)
  by_cases d4 : (x.length : Int) < l[i].at_
  · repeat' (simp [*, -List.getElem_cons_drop, inRange_nat] <;> first | (simp only [kC_bool, kG_bool, brk_ite]; split <;> (rename_i hc; try simp only [decide_eq_true_eq, Bool.not_eq_true, Bool.not_eq_eq_eq_not, Bool.not_true, Bool.not_false, decide_eq_false_iff_not, Decidable.not_not] at hc)) | exact decide_eq_decide.2 Iff.rfl | skip)
  have hlt : l[i].node.toNat < g.nodes.length := by omega
  have hn : g.nodes[l[i].node.toNat]? = some g.nodes[l[i].node.toNat] := List.getElem?_eq_getElem hlt
  have hL := fun ρ => @Right_lp bar T h g x l hb hg hx l[i] hsk i (by omega) l[i].node.toNat (by omega) _ hn (hm _ (List.getElem_mem hlt)) (by omega) (by omega) 0 ρ (by simp)
  clear hm hl hg hn
  repeat' (simp [*, -List.getElem_cons_drop, inRange_nat] <;> first | (simp only [kC_bool, kG_bool, brk_ite]; split <;> (rename_i hc; try simp only [decide_eq_true_eq, Bool.not_eq_true, Bool.not_eq_eq_eq_not, Bool.not_true, Bool.not_false, decide_eq_false_iff_not, Decidable.not_not] at hc)) | exact decide_eq_decide.2 Iff.rfl | skip)
def RcheckStp (g : Gram) (x : List UInt8) (l : List Stp) : Nat → Nat → Int
  | 0, _ => -1
  | m + 1, i => if RightF g x l i = true then RcheckStp g x l m (i + 1) else i
theorem RCheck_lp (hb : bar ≤ T) (hg : g.Ok) (hm : ∀ n ∈ g.nodes, madeF n g.rules.length = true) (hx : x.length ≤ 140737488355327) (hl : ∀ s ∈ l, s.Ok) (hll : l.length ≤ 140737488355327) :
    ∀ (m i : Nat) (ρ : Env), m + i = l.length → keep [1, 2, 3, 7] ρ = some [(1, .str x), (2, .sl (l.map Stp.cells)), (3, .ptr T 0 0 0), (7, .int .i64 i)] →
    endD (T + 1) [.tmp 6] false (kS PA PS bar (T + 1) (inBlk 0 (PS.lp bar (T + 1) L.ref19_Check_0 ρ ([.arr [g.cells]] :: h))) K.ref19_Check_0) = some (.int .i64 (RcheckStp g x l m i), h) := by
  have hb1 : bar ≤ T + 1 := by omega
  intro m
  induction m with
  | zero =>
    intro i ρ hi hk
    have e : ¬ i < l.length := by omega
    clear hi
    rw [P.ref19_Check_0, hk]; simp only [B.ref19_Check_0]
    repeat' (simp [*, -List.getElem_cons_drop, K.ref19_Check_0, RcheckStp] <;> first | (simp only [kC_bool, kG_bool, brk_ite]; split <;> (rename_i hc; try simp only [decide_eq_true_eq, Bool.not_eq_true, Bool.not_eq_eq_eq_not, Bool.not_true, Bool.not_false, decide_eq_false_iff_not, Decidable.not_not] at hc)) | exact decide_eq_decide.2 Iff.rfl | skip)
  | succ m ih =>
    intro i ρ hi hk
    have e : i < l.length := by omega
    have e1 := wrap_succ e hll
    have hr := fun h => @Right_ok bar (T + 1) h g x l hb1 hg hm hx hl i e
    replace ih := fun ρ => ih (i + 1) ρ (by omega)
    clear hi hl hm
    rw [P.ref19_Check_0, hk]; simp only [B.ref19_Check_0]
    repeat' (simp [*, -List.getElem_cons_drop, RcheckStp] <;> first | (simp only [kC_bool, kG_bool, brk_ite]; split <;> (rename_i hc; try simp only [decide_eq_true_eq, Bool.not_eq_true, Bool.not_eq_eq_eq_not, Bool.not_true, Bool.not_false, decide_eq_false_iff_not, Decidable.not_not] at hc)) | exact decide_eq_decide.2 Iff.rfl | skip)
theorem RCheck_ok (hb : bar ≤ T) (hg : g.Ok) (hm : ∀ n ∈ g.nodes, madeF n g.rules.length = true) (hx : x.length ≤ 140737488355327) (hl : ∀ s ∈ l, s.Ok) (hll : l.length ≤ 140737488355327) :
    PS.call bar T F.ref19_Check [.agg g.cells, .str x, .sl (l.map Stp.cells)] h = some (.int .i64 (RcheckStp g x l l.length 0), h) := by
  rw [E.ref19_Check]
  simp only [C.ref19_Check]
  have hL := @RCheck_lp bar T h g x l hb hg hm hx hl hll l.length 0
  clear hm hl hg
  repeat' (simp [*, -List.getElem_cons_drop] <;> first | (simp only [kC_bool, kG_bool, brk_ite]; split <;> (rename_i hc; try simp only [decide_eq_true_eq, Bool.not_eq_true, Bool.not_eq_eq_eq_not, Bool.not_true, Bool.not_false, decide_eq_false_iff_not, Decidable.not_not] at hc)) | exact decide_eq_decide.2 Iff.rfl | skip)
  all_goals (refine Eq.trans (hL _ ?_ ?_) ?_ <;> simp)
/-! searching -/
theorem idxF_lt {α : Type} (p : α → Bool) : ∀ (l : List α) (i : Nat), idxF p l i = -1 ∨ ((i : Int) ≤ idxF p l i ∧ idxF p l i < i + l.length)
  | [], i => .inl rfl
  | x :: l, i => by
    simp only [idxF, List.length_cons]
    split
    · right; omega
    · rcases idxF_lt p l (i + 1) with h | h
      · exact .inl h
      · right; omega
theorem Fc1_ok (hb : bar ≤ T + 2) {f1 fr : List Obj} {n a : Int} (h0 : fr[0]? = some (.arr [[.int .i64 n]])) (h1 : fr[1]? = some (.arr [[.int .i64 a]])) (s : Stp) : PS.call bar (T + 2) F.ford_Find_c1 [.agg s.cells, .ptr T 0 0 0, .ptr T 1 0 0] (f1 :: fr :: h) = some (.bool (s.about.is ⟨n, false, a⟩), f1 :: fr :: h) := by
  rw [E.ford_Find_c1]
  simp only [C.ford_Find_c1]
  have hb1 : bar ≤ T + 2 + 1 := by omega
  obtain ⟨nd, rest, at1, e1, ks⟩ := s
  have ha := fun bar T h hb r => @about_ok bar T h hb ⟨nd, r, at1, e1, ks⟩
  cases rest <;> repeat' (simp [*, -List.getElem_cons_drop, Clm.is, Stp.about] <;> first | (simp only [kC_bool, kG_bool, brk_ite]; split <;> (rename_i hc; try simp only [decide_eq_true_eq, Bool.not_eq_true, Bool.not_eq_eq_eq_not, Bool.not_true, Bool.not_false, decide_eq_false_iff_not, Decidable.not_not] at hc)) | exact decide_eq_decide.2 Iff.rfl | skip)
  all_goals rfl
theorem FFind_ok (hb : bar ≤ T) (hll : l.length ≤ 140737488355327) (n a : Int) : PS.call bar T F.ford_Find [.sl (l.map Stp.cells), .int .i64 n, .int .i64 a] h = some (.tup [.int .i64 (if findF n a l 0 < 0 then 0 else (stpAt l (findF n a l 0)).end_), .bool (!decide (findF n a l 0 < 0))], h) := by
  rw [E.ford_Find]
  simp only [C.ford_Find]
  have hb1 : bar ≤ T + 1 := by omega
  have hx := @idxS_ok bar (T + 1) ([.arr [[.int .i64 n]], .arr [[.int .i64 a]]] :: h) F.ford_Find_c1 [.ptr T 0 0 0, .ptr T 1 0 0] (fun s => s.about.is ⟨n, false, a⟩) (fun fr k => Fc1_ok (by omega) (by simp) (by simp) k) l hll
  rw [show idxF (fun s : Stp => s.about.is ⟨n, false, a⟩) l 0 = findF n a l 0 from rfl] at hx
  rcases idxF_lt (fun s : Stp => s.about.is ⟨n, false, a⟩) l 0 with hq | hq
  · rw [show idxF (fun s : Stp => s.about.is ⟨n, false, a⟩) l 0 = findF n a l 0 from rfl] at hq
    repeat' (simp [*, -List.getElem_cons_drop, tupD] <;> first | (simp only [kC_bool, kG_bool, brk_ite]; split <;> (rename_i hc; try simp only [decide_eq_true_eq, Bool.not_eq_true, Bool.not_eq_eq_eq_not, Bool.not_true, Bool.not_false, decide_eq_false_iff_not, Decidable.not_not] at hc)) | exact decide_eq_decide.2 Iff.rfl | skip)
  · rw [show idxF (fun s : Stp => s.about.is ⟨n, false, a⟩) l 0 = findF n a l 0 from rfl] at hq
    obtain ⟨k, hk⟩ := Int.eq_ofNat_of_zero_le (show 0 ≤ findF n a l 0 by omega)
    rw [hk] at hx hq ⊢
    have hkl : k < l.length := by omega
    have hst : stpAt l k = l[k] := by simp [stpAt, hkl]
    have e0 : ¬ (k : Int) < 0 := by omega
    rw [hst]
    clear hq hk hst
    repeat' (simp [*, -List.getElem_cons_drop, tupD, inRange_nat] <;> first | (simp only [kC_bool, kG_bool, brk_ite]; split <;> (rename_i hc; try simp only [decide_eq_true_eq, Bool.not_eq_true, Bool.not_eq_eq_eq_not, Bool.not_true, Bool.not_false, decide_eq_false_iff_not, Decidable.not_not] at hc)) | exact decide_eq_decide.2 Iff.rfl | skip)
end AM
/- Derivations: the two checks of steps answer alike. -/
namespace AM
open Go
set_option maxHeartbeats 0
variable {g : Gram} {x : List UInt8} {l : List Stp}
theorem is_iff {a b : Clm} : a.is b = true ↔ a = b := by
  obtain ⟨a1, a2, a3⟩ := a
  obtain ⟨b1, b2, b3⟩ := b
  simp [Clm.is]
def rfF (g : Gram) (x : List UInt8) (l : List Stp) (s : Stp) (n : Node) : Bool :=
  if s.rest = true then (if n.op = 5 ∨ n.op = 6 then repeatsF l s n s.at_ else false)
    else if n.op = 0 ∨ n.op = 1 then leafF x s n
    else if n.op = 2 then oneF l s ⟨((g.rules[n.rule.toNat]?).map Rule.root).getD 0, false, s.at_⟩ (fun e => e)
    else if n.op = 3 ∨ n.op = 4 then severalF l s n
    else unaryF l s n
/-- What a right step's end is like. -/
def Good (s : Stp) : Prop := 0 ≤ s.at_ ∧ (s.end_ = -1 ∨ s.at_ ≤ s.end_)
theorem kidF_iff {s : Stp} {k : Nat} {c : Clm} : kidF l s k c = true ↔ k < s.kids.length ∧ (kidS l s k).about = c := by
  simp only [kidF, Bool.and_eq_true, decide_eq_true_eq, is_iff, kidS]
theorem endF_kid {s : Stp} {k : Nat} : endF l s k = (kidS l s k).end_ := rfl
theorem restF_iff {s : Stp} : restF l s = true ↔ s.kids.length = 2 ∧ (kidS l s 1).about = ⟨s.node, true, (kidS l s 0).end_⟩ ∧ s.end_ = (kidS l s 1).end_ := by
  simp only [restF, Bool.and_eq_true, decide_eq_true_eq, kidF_iff]
  constructor
  · rintro ⟨h1, ⟨h2, h3⟩, h4⟩; exact ⟨h1, h3, h4⟩
  · rintro ⟨h1, h3, h4⟩; exact ⟨h1, ⟨by omega, h3⟩, h4⟩
theorem repeatsF_iff {s : Stp} {n : Node} {no : Int} : repeatsF l s n no = true ↔ n.kids.length = 1 ∧ 0 < s.kids.length ∧ (kidS l s 0).about = ⟨nk0 n, false, s.at_⟩ ∧
    (((kidS l s 0).end_ < 0 ∧ s.kids.length = 1 ∧ s.end_ = no) ∨ (0 ≤ (kidS l s 0).end_ ∧ s.kids.length = 2 ∧ (kidS l s 1).about = ⟨s.node, true, (kidS l s 0).end_⟩ ∧ s.end_ = (kidS l s 1).end_)) := by
  unfold repeatsF
  cases hk : kidF l s 0 ⟨nk0 n, false, s.at_⟩ with
  | false =>
    have : ¬ (0 < s.kids.length ∧ (kidS l s 0).about = ⟨nk0 n, false, s.at_⟩) := fun h => by rw [kidF_iff.2 h] at hk; cases hk
    simp only [or_true, if_true, Bool.false_eq_true, false_iff]
    rintro ⟨_, h1, h2, _⟩; exact this ⟨h1, h2⟩
  | true =>
    obtain ⟨h1, h2⟩ := kidF_iff.1 hk
    by_cases hn : n.kids.length = 1
    · simp only [hn, h1, h2, not_true_eq_false, Bool.true_eq_false, or_self, if_false, true_and]
      split
      · rename_i hc
        simp only [Bool.and_eq_true, decide_eq_true_eq]
        constructor
        · rintro ⟨h3, h4⟩; exact .inl ⟨hc, h3, h4⟩
        · rintro (⟨_, h3, h4⟩ | ⟨h3, _⟩)
          · exact ⟨h3, h4⟩
          · rw [endF_kid] at hc; omega
      · rename_i hc
        rw [endF_kid] at hc
        rw [restF_iff]
        constructor
        · rintro ⟨h3, h4⟩; exact .inr ⟨by omega, h3, h4⟩
        · rintro (⟨h3, _⟩ | ⟨_, h3, h4⟩)
          · omega
          · exact ⟨h3, h4⟩
    · simp [hn]
theorem repF_iff {s : Stp} {e : Int} : repF l s e = true ↔ s.kids.length = 2 ∧ (kidS l s 0).about = ⟨e, false, s.at_⟩ ∧ 0 ≤ (kidS l s 0).end_ ∧ (kidS l s 1).about = ⟨s.node, true, (kidS l s 0).end_⟩ ∧ (kidS l s 1).end_ = s.end_ := by
  unfold repF
  split
  · rename_i h; simp only [h, Bool.and_eq_true, decide_eq_true_eq, is_iff, true_and, ge_iff_le]
  · rename_i h; simp [h]
theorem oneF_iff {s : Stp} {c : Clm} {chg : Int → Int} : oneF l s c chg = true ↔ s.kids.length = 1 ∧ (kidS l s 0).about = c ∧ s.end_ = chg (kidS l s 0).end_ := by
  simp only [oneF, Bool.and_eq_true, decide_eq_true_eq, kidF_iff]
  constructor
  · rintro ⟨h1, ⟨_, h2⟩, h3⟩; exact ⟨h1, h2, h3⟩
  · rintro ⟨h1, h2, h3⟩; exact ⟨h1, ⟨by omega, h2⟩, h3⟩
theorem frst_kid {s : Stp} (h : 0 < s.kids.length) : frst l s = kidS l s 0 := by simp only [frst, gt_iff_lt, if_pos h]

/-! sequences -/
theorem sev_seq {s : Stp} {n : Node} (h3 : n.op = 3) (hg : ∀ k, k < s.kids.length → Good (kidS l s k)) (hle : s.kids.length ≤ n.kids.length) (h0 : 0 < s.kids.length) : ∀ (m k : Nat) (a : Int), m + k = s.kids.length → (m = 0 → a = (kidS l s (s.kids.length - 1)).end_ ∧ (a < 0 ∨ s.kids.length = n.kids.length)) → sevGo l s n m k a = sqGo l s n m k a
  | 0, k, a, hm, ha => by
    obtain ⟨ha, hb⟩ := ha rfl
    have := hg (s.kids.length - 1) (by omega)
    unfold Good at this
    have e := @endF_kid l s (s.kids.length - 1)
    simp only [sevGo, sqGo]
    rw [Bool.eq_iff_iff]
    split
    · simp only [Bool.and_eq_true, decide_eq_true_eq]; omega
    · simp only [Bool.and_eq_true, decide_eq_true_eq]; omega
  | m + 1, k, a, hm, ha => by
    have hlt : k < s.kids.length := by omega
    unfold sevGo sqGo
    rw [if_pos h3]
    cases hk : (kidS l s k).about.is ⟨nkAt n k, false, a⟩ with
    | false =>
      have : kidF l s k ⟨nkAt n k, false, a⟩ = false := by
        cases hq : kidF l s k ⟨nkAt n k, false, a⟩ with
        | false => rfl
        | true => rw [is_iff.2 (kidF_iff.1 hq).2] at hk; cases hk
      simp [this]
    | true =>
      have : kidF l s k ⟨nkAt n k, false, a⟩ = true := kidF_iff.2 ⟨hlt, is_iff.1 hk⟩
      rw [this]
      simp only [Bool.true_eq_false, if_false, false_or]
      rw [show endF l s k = (kidS l s k).end_ from rfl]
      by_cases hl : k < s.kids.length - 1
      · by_cases he : (kidS l s k).end_ < 0
        · simp [hl, he]
        · simp only [hl, he, decide_false, decide_true, Bool.not_false, not_true_eq_false, false_and, if_false, and_false]
          exact sev_seq h3 hg hle h0 m (k + 1) _ (by omega) (fun h => by omega)
      · have hkl : k = s.kids.length - 1 := by omega
        have hm0 : m = 0 := by omega
        subst hm0
        by_cases he : (kidS l s k).end_ < 0
        · simp only [hl, he, decide_true, decide_false, Bool.not_true, not_true_eq_false, false_and, if_false]
          exact sev_seq h3 hg hle h0 0 (k + 1) _ (by omega) (fun _ => ⟨by rw [← hkl], .inl he⟩)
        · by_cases hq : s.kids.length < n.kids.length
          · simp only [hl, he, hq, decide_false, Bool.not_false, Bool.true_eq_false, not_false_eq_true, or_true, and_true, if_true, false_and, if_false]
            unfold sqGo
            rw [if_neg he]
            have : ¬ s.kids.length = n.kids.length := by omega
            simp [this]
          · simp only [hl, he, hq, decide_false, or_self, and_false, if_false, false_and]
            exact sev_seq h3 hg hle h0 0 (k + 1) _ (by omega) (fun _ => ⟨by rw [← hkl], .inr (by omega)⟩)
theorem sev_cho {s : Stp} {n : Node} (h3 : n.op = 4) (hg : ∀ k, k < s.kids.length → Good (kidS l s k)) (hle : s.kids.length ≤ n.kids.length) (h0 : 0 < s.kids.length) : ∀ (m k : Nat), m + k = s.kids.length → (m = 0 → 0 ≤ (kidS l s (s.kids.length - 1)).end_ ∨ s.kids.length = n.kids.length) → sevGo l s n m k s.at_ = chGo l s n m k
  | 0, k, hm, ha => by
    have hb := ha rfl
    have := hg (s.kids.length - 1) (by omega)
    unfold Good at this
    have e := @endF_kid l s (s.kids.length - 1)
    simp only [sevGo, chGo]
    rw [Bool.eq_iff_iff]
    split
    · simp only [decide_eq_true_eq]; omega
    · simp only [Bool.and_eq_true, decide_eq_true_eq]; omega
  | m + 1, k, hm, ha => by
    have hlt : k < s.kids.length := by omega
    have n3 : ¬ n.op = 3 := by omega
    unfold sevGo chGo
    rw [if_neg n3]
    cases hk : (kidS l s k).about.is ⟨nkAt n k, false, s.at_⟩ with
    | false =>
      have : kidF l s k ⟨nkAt n k, false, s.at_⟩ = false := by
        cases hq : kidF l s k ⟨nkAt n k, false, s.at_⟩ with
        | false => rfl
        | true => rw [is_iff.2 (kidF_iff.1 hq).2] at hk; cases hk
      simp [this]
    | true =>
      have : kidF l s k ⟨nkAt n k, false, s.at_⟩ = true := kidF_iff.2 ⟨hlt, is_iff.1 hk⟩
      rw [this]
      simp only [Bool.true_eq_false, if_false, false_or]
      rw [show endF l s k = (kidS l s k).end_ from rfl]
      by_cases hl : k < s.kids.length - 1
      · by_cases he : (kidS l s k).end_ < 0
        · have he' : ¬ (kidS l s k).end_ ≥ 0 := by omega
          simp only [hl, he, he', decide_true, not_true_eq_false, false_and, if_false, and_false]
          exact sev_cho h3 hg hle h0 m (k + 1) (by omega) (fun h => by omega)
        · have he' : (kidS l s k).end_ ≥ 0 := by omega
          simp [hl, he, he']
      · have hkl : k = s.kids.length - 1 := by omega
        have hm0 : m = 0 := by omega
        subst hm0
        by_cases he : (kidS l s k).end_ < 0
        · by_cases hq : s.kids.length < n.kids.length
          · simp only [hl, he, hq, decide_true, decide_false, Bool.true_eq_false, not_false_eq_true, or_true, and_true, if_true, false_and, if_false]
            unfold chGo
            rw [← hkl, if_neg (by omega)]
            have : ¬ s.kids.length = n.kids.length := by omega
            simp [this]
          · simp only [hl, he, hq, or_self, and_false, if_false, false_and]
            exact sev_cho h3 hg hle h0 0 (k + 1) (by omega) (fun _ => .inr (by omega))
        · simp only [hl, he, decide_false, not_true_eq_false, false_and, if_false]
          exact sev_cho h3 hg hle h0 0 (k + 1) (by omega) (fun _ => .inl (by rw [← hkl]; omega))

theorem rep_eq {s : Stp} {n : Node} (no : Int) (hn : n.kids.length = 1) : repeatsF l s n no = ((decide (s.kids.length = 1) && ((frst l s).about.is ⟨nkAt n 0, false, s.at_⟩ && (decide ((frst l s).end_ < 0) && decide (s.end_ = no)))) || repF l s (nkAt n 0)) := by
  rw [Bool.eq_iff_iff, repeatsF_iff, Bool.or_eq_true, repF_iff]
  simp only [Bool.and_eq_true, decide_eq_true_eq, is_iff]
  constructor
  · rintro ⟨_, h1, h2, (⟨h3, h4, h5⟩ | ⟨h3, h4, h5, h6⟩)⟩
    · rw [frst_kid h1]; exact .inl ⟨h4, h2, h3, h5⟩
    · exact .inr ⟨h4, h2, h3, h5, h6.symm⟩
  · rintro (⟨h1, h2, h3, h4⟩ | ⟨h1, h2, h3, h4, h5⟩)
    · rw [frst_kid (by omega)] at h2 h3
      exact ⟨hn, by omega, h2, .inl ⟨h3, h1, h4⟩⟩
    · exact ⟨hn, by omega, h2, .inr ⟨h3, h1, h4, h5.symm⟩⟩
theorem one_eq {s : Stp} {c : Clm} {chg : Int → Int} : oneF l s c chg = (decide (s.kids.length = 1) && ((frst l s).about.is c && decide (s.end_ = chg (frst l s).end_))) := by
  rw [Bool.eq_iff_iff, oneF_iff]
  simp only [Bool.and_eq_true, decide_eq_true_eq, is_iff]
  constructor
  · rintro ⟨h1, h2, h3⟩; rw [frst_kid (by omega)]; exact ⟨h1, h2, h3⟩
  · rintro ⟨h1, h2, h3⟩; rw [frst_kid (by omega)] at h2 h3; exact ⟨h1, h2, h3⟩
theorem rf_eq {s : Stp} {n : Node} (h0 : 0 ≤ s.at_) (hg : ∀ k, k < s.kids.length → Good (kidS l s k)) (m1 : 0 ≤ n.op) (m2 : n.op ≤ 9) (m4 : 5 ≤ n.op → n.kids.length = 1) : rfF g x l s n = rtF g x l s n := by
  unfold rfF rtF
  cases hr : s.rest with
  | true =>
    simp only [if_true]
    by_cases h5 : n.op = 5 ∨ n.op = 6
    · rw [if_pos h5, if_neg (by omega), rep_eq _ (m4 (by omega))]
    · rw [if_neg h5, if_pos (by omega)]
  | false =>
    simp only [Bool.false_eq_true, if_false]
    rcases (show n.op = 0 ∨ n.op = 1 ∨ n.op = 2 ∨ n.op = 3 ∨ n.op = 4 ∨ n.op = 5 ∨ n.op = 6 ∨ n.op = 7 ∨ n.op = 8 ∨ n.op = 9 by omega) with o | o | o | o | o | o | o | o | o | o
    · simp only [o, leafF, leafE]
      have : ((s.at_.toNat : Nat) : Int) = s.at_ := by omega
      simp [this]
    · have e : ((s.at_.toNat : Nat) : Int) = s.at_ := by omega
      have e2 : leafF x s n = if ((x[s.at_.toNat]?).map fun c => hasF n.s0 n.s1 n.s2 n.s3 c.toNat).getD false = true then decide (s.kids.length = 0) && decide (s.end_ = s.at_ + 1) else decide (s.kids.length = 0) && decide (s.end_ = -1) := by
        have e3 : ((x[s.at_.toNat]?).map fun c => hasF n.s0 n.s1 n.s2 n.s3 c.toNat) = (x[s.at_.toNat]?).map (byteIn n) := rfl
        rw [e3]
        unfold leafF leafE
        rw [if_pos o, e]
        split <;> rfl
      rw [e2]
      simp only [o]
      simp
    · simp only [o, one_eq]
      simp
    · simp only [o, severalF, seqF]
      simp only [show ¬ (3 : Int) = 0 by omega, show ¬ (3 : Int) = 1 by omega, show ¬ (3 : Int) = 2 by omega, if_false, or_self, true_or, if_true]
      split
      · rfl
      · rename_i hc
        exact sev_seq o hg (by omega) (by omega) _ _ _ (by omega) (fun h => by omega)
    · simp only [o, severalF, choF]
      simp only [show ¬ (4 : Int) = 0 by omega, show ¬ (4 : Int) = 1 by omega, show ¬ (4 : Int) = 2 by omega, show ¬ (4 : Int) = 3 by omega, if_false, or_self, or_true, if_true]
      split
      · rfl
      · rename_i hc
        exact sev_cho o hg (by omega) (by omega) _ _ (by omega) (fun h => by omega)
    · simp only [o, unaryF, one_eq]
      simp
    · simp only [o, unaryF, rep_eq (-1) (m4 (by omega))]
      simp
    all_goals
      simp only [o, unaryF, one_eq, show nk0 n = nkAt n 0 from rfl]
      simp
      by_cases hl : s.kids.length = 1
      · cases hk : (frst l s).about.is ⟨nkAt n 0, false, s.at_⟩ with
        | false => simp [hl]
        | true =>
          have hgd := hg 0 (by omega)
          rw [← frst_kid (by omega)] at hgd
          have hat : (frst l s).at_ = s.at_ := by have := is_iff.1 hk; simp only [Stp.about, Clm.mk.injEq] at this; exact this.2.2
          unfold Good at hgd
          rw [hat] at hgd
          simp only [hl, Bool.true_and, decide_true, Bool.true_eq_false, or_self, if_false, not_true_eq_false, false_or]
          rw [Bool.eq_iff_iff]
          simp only [Bool.or_eq_true, Bool.and_eq_true, decide_eq_true_eq]
          (try split) <;> omega
      · simp [hl]
/-- A right step is good, if its kids are. -/
theorem sev_good {s : Stp} {n : Node} (hg : ∀ k, k < s.kids.length → Good (kidS l s k)) (h0 : 0 < s.kids.length) : ∀ (m k : Nat) (a : Int), m + k = s.kids.length → s.at_ ≤ a → 0 ≤ s.at_ → (m = 0 → (kidS l s (s.kids.length - 1)).end_ = -1 ∨ s.at_ ≤ (kidS l s (s.kids.length - 1)).end_) → sevGo l s n m k a = true → Good s
  | 0, k, a, hm, ha, hs, he, h => by
    simp only [sevGo, decide_eq_true_eq] at h
    rw [endF_kid] at h
    have := he rfl
    exact ⟨hs, by omega⟩
  | m + 1, k, a, hm, ha, hs, he, h => by
    have hlt : k < s.kids.length := by omega
    have e := @endF_kid l s k
    unfold sevGo at h
    cases hk : kidF l s k ⟨nkAt n k, false, a⟩ with
    | false => rw [hk] at h; simp at h
    | true =>
      have hab := (kidF_iff.1 hk).2
      have hgd := hg k hlt
      have hat : (kidS l s k).at_ = a := by simp only [Stp.about, Clm.mk.injEq] at hab; exact hab.2.2
      unfold Good at hgd
      rw [hat] at hgd
      rw [hk] at h
      simp only [Bool.true_eq_false, if_false] at h
      have hlast : m = 0 → (kidS l s (s.kids.length - 1)).end_ = -1 ∨ s.at_ ≤ (kidS l s (s.kids.length - 1)).end_ := fun hm0 => by
        rw [show s.kids.length - 1 = k by omega]; omega
      split at h
      · split at h
        · cases h
        · rename_i hc
          rcases Nat.eq_zero_or_pos m with hm0 | hm0
          · subst hm0
            simp only [sevGo, decide_eq_true_eq] at h
            rw [endF_kid] at h
            have := hlast rfl
            exact ⟨hs, by omega⟩
          · have hkl : k < s.kids.length - 1 := by omega
            have hge : ¬ (kidS l s k).end_ < 0 := by
              intro hlt'
              have hlt'' : endF l s k < 0 := hlt'
              simp [hkl, hlt''] at hc
            exact sev_good hg h0 m (k + 1) _ (by omega) (by omega) hs (fun h => by omega) h
      · split at h
        · cases h
        · exact sev_good hg h0 m (k + 1) _ (by omega) ha hs hlast h
theorem rf_good {s : Stp} {n : Node} (h0 : 0 ≤ s.at_) (hg : ∀ k, k < s.kids.length → Good (kidS l s k)) (h : rfF g x l s n = true) : Good s := by
  have hrep : ∀ no, (no = -1 ∨ no = s.at_) → repeatsF l s n no = true → Good s := fun no hno h => by
    obtain ⟨_, h1, h2, (⟨h3, h4, h5⟩ | ⟨h3, h4, h5, h6⟩)⟩ := repeatsF_iff.1 h
    · exact ⟨h0, by omega⟩
    · have g0 := hg 0 (by omega)
      have g1 := hg 1 (by omega)
      have a0 : (kidS l s 0).at_ = s.at_ := by simp only [Stp.about, Clm.mk.injEq] at h2; exact h2.2.2
      have a1 : (kidS l s 1).at_ = (kidS l s 0).end_ := by simp only [Stp.about, Clm.mk.injEq] at h5; exact h5.2.2
      unfold Good at g0 g1 ⊢
      exact ⟨h0, by omega⟩
  have hone : ∀ c chg, c.at_ = s.at_ → (∀ e, (e = -1 ∨ s.at_ ≤ e) → chg e = -1 ∨ s.at_ ≤ chg e) → oneF l s c chg = true → Good s := fun c chg hc hch h => by
    obtain ⟨h1, h2, h3⟩ := oneF_iff.1 h
    have g0 := hg 0 (by omega)
    have a0 : (kidS l s 0).at_ = s.at_ := by rw [← h2] at hc; exact hc
    unfold Good at g0
    have := hch (kidS l s 0).end_ (by omega)
    exact ⟨h0, by omega⟩
  unfold rfF at h
  split at h
  · split at h
    · exact hrep _ (.inr rfl) h
    · cases h
  · split at h
    · simp only [leafF, Bool.and_eq_true, decide_eq_true_eq] at h
      have h2 := h.2
      unfold leafE at h2
      split at h2
      · split at h2 <;> exact ⟨h0, by omega⟩
      · exact ⟨h0, by omega⟩
    · split at h
      · exact hone _ _ rfl (fun e he => he) h
      · split at h
        · unfold severalF at h
          split at h
          · cases h
          · exact sev_good hg (by omega) _ _ _ (by omega) (Int.le_refl _) h0 (fun h => by omega) h
        · unfold unaryF at h
          split at h
          · exact hone _ _ rfl (fun e he => he) h
          · split at h
            · exact hrep _ (.inl rfl) h
            · split at h
              · exact hone _ _ rfl (fun e he => by split <;> omega) h
              · split at h
                · exact hone _ _ rfl (fun e he => by split <;> omega) h
                · exact hone _ _ rfl (fun e he => by split <;> omega) h

theorem anyL_iff {p : Int → Bool} : ∀ {ks : List Int}, anyL p ks = true ↔ ∃ k ∈ ks, p k = true
  | [] => by simp
  | k :: ks => by simp [anyL_iff (ks := ks)]
theorem stpAt_kid {s : Stp} {k : Nat} : kidS l s k = stpAt l (kidAt s k) := rfl
/-- The two checks agree at a step, if the steps ahead of it are good. -/
theorem right_eq (hm : ∀ n ∈ g.nodes, madeF n g.rules.length = true) {i : Nat} (hgd : ∀ j, j < i → Good (stpAt l (j : Nat))) : rightF g x l i = RightF g x l i ∧ (rightF g x l i = true → Good (stpAt l i)) := by
  have key : ∀ s n, 0 ≤ s.at_ → EarlyI s i = true → n ∈ g.nodes → rfF g x l s n = rtF g x l s n ∧ (rfF g x l s n = true → Good s) := fun s n h0 he hn => by
    obtain ⟨m1, m2, m3, m4⟩ := madeF_facts (hm n hn)
    have hk : ∀ k, k < s.kids.length → Good (kidS l s k) := fun k hk => by
      simp only [EarlyI, Bool.not_eq_true'] at he
      have hb : 0 ≤ s.kids[k] ∧ s.kids[k] < i := by
        have hne : ¬ ∃ q ∈ s.kids, (decide (q < 0) || decide (q ≥ (i : Int))) = true := fun hc => by rw [anyL_iff.2 hc] at he; cases he
        have : ¬ (s.kids[k] < 0 ∨ s.kids[k] ≥ (i : Int)) := fun hq => hne ⟨s.kids[k], List.getElem_mem hk, by simpa using hq⟩
        omega
      have e : kidAt s k = s.kids[k] := by simp [kidAt, hk]
      rw [stpAt_kid, e]
      have := hgd s.kids[k].toNat (by omega)
      rwa [show ((s.kids[k].toNat : Nat) : Int) = s.kids[k] by omega] at this
    exact ⟨rf_eq h0 hk m1 m2 m4, rf_good h0 hk⟩
  have e1 : rightF g x l i = if (stpAt l i).node < 0 ∨ (stpAt l i).node ≥ g.nodes.length ∨ (stpAt l i).at_ < 0 ∨ (stpAt l i).at_ > x.length ∨ EarlyI (stpAt l i) i = false then false else match g.nodes[(stpAt l i).node.toNat]? with
      | none => false
      | some n => rfF g x l (stpAt l i) n := rfl
  have e2 : RightF g x l i = if (stpAt l i).node < 0 ∨ (stpAt l i).node ≥ g.nodes.length ∨ (stpAt l i).at_ < 0 ∨ (stpAt l i).at_ > x.length then false else if anyL (fun k => decide (k < 0) || decide (k ≥ (i : Int))) (stpAt l i).kids = true then false else match g.nodes[(stpAt l i).node.toNat]? with
      | none => false
      | some n => rtF g x l (stpAt l i) n := rfl
  rw [e1, e2]
  by_cases c : (stpAt l i).node < 0 ∨ (stpAt l i).node ≥ g.nodes.length ∨ (stpAt l i).at_ < 0 ∨ (stpAt l i).at_ > x.length
  · rw [if_pos c, if_pos (by omega)]; simp
  · rw [if_neg c]
    cases he : anyL (fun k => decide (k < 0) || decide (k ≥ (i : Int))) (stpAt l i).kids with
    | true =>
      have : EarlyI (stpAt l i) i = false := by simp [EarlyI, he]
      rw [if_pos (by simp [this])]; simp
    | false =>
      have hE : EarlyI (stpAt l i) i = true := by simp [EarlyI, he]
      rw [if_neg (by rw [hE]; simp only [Bool.true_eq_false, or_false]; omega)]
      simp only [Bool.false_eq_true, if_false]
      cases hn : g.nodes[(stpAt l i).node.toNat]? with
      | none => simp
      | some n => exact key _ n (by omega) hE (List.mem_of_getElem? hn)
theorem check_eq (hm : ∀ n ∈ g.nodes, madeF n g.rules.length = true) : ∀ (m i : Nat), (∀ j, j < i → Good (stpAt l (j : Nat))) → checkStp g x l m i = RcheckStp g x l m i
  | 0, i, h => rfl
  | m + 1, i, h => by
    obtain ⟨h1, h2⟩ := right_eq (x := x) hm h
    simp only [checkStp, RcheckStp, h1]
    split
    · rename_i hc
      exact check_eq hm m (i + 1) fun j hj => by
        rcases Nat.lt_or_ge j i with hj' | hj'
        · exact h j hj'
        · rw [show j = i by omega]; exact h2 (h1.trans hc)
    · rfl
/-! what a small grammar is made of -/
theorem chkNodes_made {g : Gram} : ∀ {l : List Node} {i : Nat}, (chkNodes g l i).2.1 = 0 → (∀ n ∈ l, madeF n g.rules.length = true) ∧ (chkOrd g).2.1 = 0
  | [], i, h => ⟨by simp, h⟩
  | n :: l, i, h => by
    unfold chkNodes at h
    split at h
    · rename_i hc
      obtain ⟨h1, h2⟩ := chkNodes_made h
      exact ⟨fun q hq => by
        rcases List.mem_cons.1 hq with rfl | hq
        · exact hc
        · exact h1 q hq, h2⟩
    · simp at h
theorem chkRules_ok {g : Gram} : ∀ {l : List Rule} {i : Nat}, (chkRules g l i).2.1 = 0 → (chkNodes g g.nodes 0).2.1 = 0
  | [], i, h => h
  | r :: l, i, h => by
    unfold chkRules at h
    split at h
    · simp at h
    · split at h
      · simp at h
      · exact chkRules_ok h
theorem small_made {g : Gram} (h : smallF g = true) : ∀ n ∈ g.nodes, madeF n g.rules.length = true := by
  simp only [smallF, Bool.and_eq_true, validF, decide_eq_true_eq] at h
  have h2 := h.2
  unfold checkF at h2
  split at h2
  · simp at h2
  · split at h2
    · simp at h2
    · exact (chkNodes_made (chkRules_ok h2)).1
end AM
/- FordChecks: any steps are a derivation exactly if the reference accepts them; otherwise the first one that is not right is told. -/
namespace AM
open Go
attribute [local simp] opsD_nil opsD_cons kG_true kG_false kO_some kO_none kR_some kR_none kS_normal kS_ret kS_exit kS_none kC_true kC_false kK_some exec_skip exec_reg exec_seq exec_cond exec_blk exec_loop exec_exit exec_ret exec_kp inBlk_normal inBlk_ret inBlk_exit inBlk_none endD_normal endD_ret endD_none
attribute [local simp] opD step wanted guardB lk putE Opd.ev evAll argEnv newO pushO getO setO keep D.cells D.one D.stb D.lvl D.lvl.lvlAll asB asI asArr asMap asStr asAgg ldD faD partD binD binI binS eqD eqL_cons eqL_nil ite_tf ite_bf eqSK unD stD putCells may nckD resD tupD frz frz.frzAll okD iaAD iaSD lenVD lenSD callDD callFn fills extD mxD mnD maxL minL
set_option maxRecDepth 10000
set_option maxHeartbeats 0
set_option linter.unusedSimpArgs false
set_option linter.unusedVariables false
variable {bar T : Nat} {h : Heap}
theorem awake_ok (fr : List Obj) : PS.call 0 1 F.law19_awake [] [fr] = some (.bool true, [fr]) :=
  lim_calc 40 (by kernel_rfl)
variable {g : Gram} {x : List UInt8} {l : List Stp}
theorem fewL_facts (h : fewL g x l = true) : smallF g = true ∧ x.length ≤ 60 ∧ l.length ≤ 500 := by
  simp only [fewL, Bool.and_eq_true, decide_eq_true_eq] at h
  exact ⟨h.2.1, h.2.2⟩
theorem FordChecks_ok (hg : g.Ok) (hx : x.length ≤ 140737488355327) (hl : ∀ s ∈ l, s.Ok) (hll : l.length ≤ 140737488355327) (node at_ : Int) :
    PS.call 0 0 F.law19_FordChecks [.agg g.cells, .str x, .sl (l.map Stp.cells), .int .i64 node, .int .i64 at_] [] = some (.bool true, []) := by
  rw [E.law19_FordChecks]
  simp only [C.law19_FordChecks]
  cases hf : fewL g x l with
  | false => repeat' (simp [*, -List.getElem_cons_drop, awake_ok, few_ok hg hll] <;> first | (simp only [kC_bool, kG_bool, brk_ite]; split <;> (rename_i hc; try simp only [decide_eq_true_eq, Bool.not_eq_true, Bool.not_eq_eq_eq_not, Bool.not_true, Bool.not_false, decide_eq_false_iff_not, Decidable.not_not] at hc)) | exact decide_eq_decide.2 Iff.rfl | skip)
  | true =>
    obtain ⟨hs, hx60, hl5⟩ := fewL_facts hf
    have hm := small_made hs
    have h1 := fun h => @steps_ok 0 1 h l (by omega) hl5
    have h1' := fun h => @steps_ok 1 1 h l (by omega) hl5
    have h2 := fun h => @FFind_ok 0 1 h l (by omega) hll node at_
    have h3 := fun h => @RFind_ok 0 1 h l hll node at_
    have h4 := fun h => @FCheck_ok 1 1 h g x l (by omega) hg hm hx hl hll
    have h5 := fun h => @RCheck_ok 0 1 h g x l (by omega) hg hm hx hl hll
    have h6 := @check_eq g x l hm l.length 0 (fun j hj => by omega)
    have h7 := fun h => @few_ok 0 1 h g x l hg hll
    clear hm hs hg hl
    rcases idxF_lt (fun s : Stp => s.about.is ⟨node, false, at_⟩) l 0 with hq | hq
    · rw [show idxF (fun s : Stp => s.about.is ⟨node, false, at_⟩) l 0 = findF node at_ l 0 from rfl] at hq
      repeat' (simp [*, -List.getElem_cons_drop, awake_ok] <;> first | (simp only [kC_bool, kG_bool, brk_ite]; split <;> (rename_i hc; try simp only [decide_eq_true_eq, Bool.not_eq_true, Bool.not_eq_eq_eq_not, Bool.not_true, Bool.not_false, decide_eq_false_iff_not, Decidable.not_not] at hc)) | exact decide_eq_decide.2 Iff.rfl | skip)
    · rw [show idxF (fun s : Stp => s.about.is ⟨node, false, at_⟩) l 0 = findF node at_ l 0 from rfl] at hq
      obtain ⟨k, hk⟩ := Int.eq_ofNat_of_zero_le (show 0 ≤ findF node at_ l 0 by omega)
      rw [hk] at h2 h3 hq
      have hkl : k < l.length := by omega
      have hst : stpAt l k = l[k] := by simp [stpAt, hkl]
      have e0 : ¬ (k : Int) < 0 := by omega
      rw [hst] at h2
      clear hq hk hst
      repeat' (simp [*, -List.getElem_cons_drop, awake_ok, inRange_nat] <;> first | (simp only [kC_bool, kG_bool, brk_ite]; split <;> (rename_i hc; try simp only [decide_eq_true_eq, Bool.not_eq_true, Bool.not_eq_eq_eq_not, Bool.not_true, Bool.not_false, decide_eq_false_iff_not, Decidable.not_not] at hc)) | exact decide_eq_decide.2 Iff.rfl | skip)
end AM
