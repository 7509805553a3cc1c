/- The texts that this proof leans on, part 2. -/
import Derived.Test.YtmbkkopbpiehdaaA1
import Derived.Orders
import Derived.ChangeArms
import Derived.OpenShut
import Derived.SizedLaws
import Derived.RowKit
import Derived.ShutString
import Derived.Carry
/- Changing maps; every operation that calls nothing. -/
namespace AM
open Go

section
variable {φ : Refs} {w w' : World} {a : Act} {ρ : Env} {P : Program} {bar T : Nat} {h h' : Heap} {d : D}

theorem setObj_map {r : Nat} {es : Array MapEntry} {clock : Nat} (o : Go.Obj) (hb : w.heap[r]? = some (.map es clock)) : (setObj r o).run P w = .ok () { w with heap := w.heap.setIfInBounds r o } := by
  simp [setObj, Sem.run, hb]

theorem findK_at {t : KT} {k : D} : ∀ {es : List (D × D)} {i p : Nat} {v : D}, findK t k es i = some (some (p, v)) → i ≤ p ∧ ∃ pk, es[p - i]? = some (pk, v) ∧ eqK t k pk = some true
  | [], i, p, v, h => by simp [findK] at h
  | (pk, pv) :: es, i, p, v, h => by
    simp only [findK] at h
    obtain ⟨b, h1, h2⟩ := bnd_eq h
    cases b
    · simp only [brk_false] at h2
      obtain ⟨g1, pk', g2, g3⟩ := findK_at h2
      refine ⟨by omega, pk', ?_, g3⟩
      rw [show p - i = (p - (i + 1)) + 1 by omega]
      simpa using g2
    · simp only [brk_true, Option.some.injEq, Prod.mk.injEq] at h2
      obtain ⟨rfl, rfl⟩ := h2
      exact ⟨Nat.le_refl _, pk, by simp, h1⟩

theorem sameBits_SK {k : SK} {x y : D} {u v : Value} (n : Nat) (hx : Rep φ w u x) (hy : Rep φ w v y) (h : eqSK k x y = some true) : Instr.sameBits n v u = true := by
  unfold eqSK at h
  split at h
  · obtain rfl := hx.bool_inv; obtain rfl := hy.bool_inv
    simp only [Option.some.injEq, decide_eq_true_eq] at h; subst h
    simp [Instr.sameBits]
  · obtain rfl := hx.int_inv; obtain rfl := hy.int_inv
    obtain ⟨hq, h2⟩ := brk_none h
    simp only [Option.some.injEq, decide_eq_true_eq] at hq h2; subst hq; subst h2
    simp [Instr.sameBits]
  · obtain rfl := hx.str_inv; obtain rfl := hy.str_inv
    simp only [Option.some.injEq, decide_eq_true_eq] at h; subst h
    simp [Instr.sameBits, beq_toListBytes]
  · cases h

theorem sameBits_L : ∀ {ks : List SK} {xs ys : List D} {us vs : List Value} (n : Nat), eqL ks xs ys = some true → us.length = xs.length → vs.length = ys.length → (∀ (i : Nat) (u : Value) (x : D), us[i]? = some u → xs[i]? = some x → Rep φ w u x) →
    (∀ (i : Nat) (u : Value) (x : D), vs[i]? = some u → ys[i]? = some x → Rep φ w u x) → vs.length = us.length ∧ (vs.zip us).all (fun (x, y) => Instr.sameBits n x y) = true
  | [], [], [], us, vs, n, _, h1, h2, _, _ => by
    obtain rfl := List.eq_nil_of_length_eq_zero h1
    obtain rfl := List.eq_nil_of_length_eq_zero h2
    exact ⟨rfl, rfl⟩
  | k :: ks, x :: xs, y :: ys, us, vs, n, h, h1, h2, h3, h4 => by
    obtain ⟨u, us, rfl⟩ := List.exists_cons_of_length_eq_add_one h1
    obtain ⟨v, vs, rfl⟩ := List.exists_cons_of_length_eq_add_one h2
    simp only [eqL] at h
    obtain ⟨b, hb, h5⟩ := bnd_eq h
    cases b
    · simp at h5
    · simp only [brk_true] at h5
      obtain ⟨g1, g2⟩ := sameBits_L n h5 (by simpa using h1) (by simpa using h2) (fun i u x hu hx => h3 (i + 1) u x (by simpa using hu) (by simpa using hx)) (fun i u x hu hx => h4 (i + 1) u x (by simpa using hu) (by simpa using hx))
      refine ⟨by simpa using g1, ?_⟩
      simp only [List.zip_cons_cons, List.all_cons, Bool.and_eq_true]
      exact ⟨sameBits_SK n (h3 0 u x rfl rfl) (h4 0 v y rfl rfl) hb, g2⟩
  | [], [], _ :: _, _, _, _, h, _, _, _, _ => by simp [eqL] at h
  | [], _ :: _, _, _, _, _, h, _, _, _, _ => by simp [eqL] at h
  | _ :: _, [], _, _, _, _, h, _, _, _, _ => by simp [eqL] at h
  | _ :: _, _ :: _, [], _, _, _, h, _, _, _, _ => by simp [eqL] at h

theorem sameBits_K {k : KT} {x y : D} {u v : Value} (n : Nat) (hx : Rep φ w u x) (hy : Rep φ w v y) (h : eqK k x y = some true) : Instr.sameBits (n + 1) v u = true := by
  unfold eqK at h
  split at h
  · exact sameBits_SK _ hx hy h
  · rename_i ks xs ys
    obtain ⟨hq, h1⟩ := brk_none h
    cases hx with
    | agg us _ l1 _ r1 =>
      cases hy with
      | agg vs _ l2 _ r2 =>
        obtain ⟨g1, g2⟩ := sameBits_L n h1 (us := us.toList) (vs := vs.toList) (by simpa using l1) (by simpa using l2) (fun i u x hu hx => r1 i u x (by simpa using hu) hx) (fun i u x hu hx => r2 i u x (by simpa using hu) hx)
        simp only [Instr.sameBits, Bool.and_eq_true, beq_iff_eq]
        exact ⟨by simpa using g1, g2⟩
  · cases h

/-- Changing a map's entries. -/
theorem map_does {l i : Nat} {r : Ref} {es es' : List (D × D)} {ents' : Array MapEntry} {clock' : Nat} {v : Value} {res : Result Next} (hI : Inv φ w T (getO T h)) (hl : h.length = T) (hφ : φ l i = some r) (h1 : getO T h l i = some (.map es))
    (hsz : ents'.size = es'.length) (hlv : ∀ p ∈ es', p.1.lvl = 0 ∧ p.2.lvl ≤ l + 1)
    (hent : ∀ (i : Nat) (e : MapEntry) (p : D × D), ents'[i]? = some e → es'[i]? = some p → Rep φ w e.key p.1 ∧ Rep φ w e.val p.2)
    (hres : Gives res v { w with heap := w.heap.setIfInBounds r.blk (.map ents' clock') }) (hd : Rep φ w v d) : Does T (getO T h) φ w (setO T h l i (.map es')) res d := by
  have hC' : ∀ l' i', getO T (setO T h l i (.map es')) l' i' = if l' = l ∧ i' = i then some (.map es') else getO T h l' i' := fun l' i' => getO_setO _ hl l' i' (by rw [h1]; rfl)
  have hoth : ∀ b, b ≠ r.blk → ({ w with heap := w.heap.setIfInBounds r.blk (.map ents' clock') } : World).heap[b]? = w.heap[b]? := by
    intro b hne
    show (w.heap.setIfInBounds r.blk _)[b]? = _
    rw [Array.getElem?_setIfInBounds_ne (Ne.symm hne)]
  have hlt : r.blk < w.heap.size := (hI.bnd l i r hφ).2
  have hnew : ({ w with heap := w.heap.setIfInBounds r.blk (.map ents' clock') } : World).heap[r.blk]? = some (.map ents' clock') := by
    show (w.heap.setIfInBounds r.blk _)[r.blk]? = _
    rw [Array.getElem?_setIfInBounds_self_of_lt hlt]
  have he := store_ext (T := T) (w := w) (w' := { w with heap := w.heap.setIfInBounds r.blk (.map ents' clock') }) hφ h1 (by simp) hC' rfl rfl rfl (by simp) hoth
  refine ⟨v, _, φ, hres, he.rep hd, he, store_inv hI hφ h1 (by simp) hC' (by simp) hoth he ?_, by rw [setO_length, hl]⟩
  exact ⟨ents', clock', hnew, hsz, hlv, fun i e p g1 g2 => ⟨he.rep (hent i e p g1 g2).1, he.rep (hent i e p g1 g2).2⟩⟩

theorem ent_of {ents : Array MapEntry} {es : List (D × D)} (he : EntR φ w ents.toList es) : ∀ (i : Nat) (e : MapEntry) (p : D × D), ents[i]? = some e → es[i]? = some p → Rep φ w e.key p.1 ∧ Rep φ w e.val p.2 :=
  fun i e p h1 h2 => he.2 i e p (by simpa using h1) h2

theorem upd_sim {t k e : TypeId} {kt : KT} {m kd x : D} {mv kv xv : Value} {res : Result Next} (hu : P.underlying t = some (.map k e)) (hk : keyT P k = some kt) (hI : Inv φ w T (getO T h)) (hl : h.length = T)
    (hm : Rep φ w mv m) (hkr : Rep φ w kv kd) (hx : Rep φ w xv x) (hs : updD bar T h kt kd x m = some (d, h')) (hres : res = ((Instr.mapUpdate t mv kv xv).run P w).andThen fun _ w' => .ok .skip w') : Does T (getO T h) φ w h' res d := by
  unfold updD at hs
  split at hs
  · rename_i l i
    obtain ⟨ob, h1, hs1⟩ := bnd_eq hs
    obtain ⟨es, h2, hs2⟩ := bnd_eq hs1
    obtain ⟨hq, hs3⟩ := brk_none hs2
    obtain ⟨q, h3, hs4⟩ := bnd_eq hs3
    have := asMap_eq h2; subst this
    simp only [Bool.and_eq_true, decide_eq_true_eq, may] at hq
    obtain ⟨⟨⟨hbar, hxl⟩, hkl⟩, hok⟩ := hq
    cases hm with
    | map l i r hφ =>
      obtain ⟨ents, clock, g1, g2⟩ := map_ents hI hφ h1
      obtain ⟨_, _, g1', g3, g4, _⟩ := hI.obj l i r _ hφ h1
      rw [g1] at g1'; cases g1'
      obtain ⟨f, f1, f2⟩ := findKey_run (P := P) hk hkr g2 h3
      have hck := checkKey_run (P := P) false hk hkr hok
      have hgo := getObj_run (P := P) g1 (by simp)
      have hsz : ents.size = es.length := by simpa using g2.1
      cases f with
      | none =>
        cases q with
        | some q => exact f2.elim
        | none =>
          obtain ⟨rfl, rfl⟩ := some_pair hs4
          have hrun : (Instr.mapUpdate t (.map (some r.blk)) kv xv).run P w = .ok () { w with heap := w.heap.setIfInBounds r.blk (.map (ents.push { key := kv, val := xv, born := clock }) (clock + 1)) } := by
            simp only [Instr.mapUpdate, Sem.run_bind, underlying_run hu, Result.andThen_ok, hgo, hck, f1, setObj_map _ g1]
          refine map_does (v := undef) (ents' := ents.push { key := kv, val := xv, born := clock }) (clock' := clock + 1) hI hl hφ h1 (by simp [hsz]) (fun p hp => ?_) (fun j en p e1 e2 => ?_) (.inr ⟨by rw [hres, hrun]; rfl, rfl⟩) .undef
          · rcases List.mem_append.1 hp with hp | hp
            · exact g4 p hp
            · simp at hp; subst hp; exact ⟨hkl, hxl⟩
          · rcases Nat.lt_or_ge j es.length with hj | hj
            · rw [List.getElem?_append_left hj] at e2
              rw [Array.getElem?_push, if_neg (by omega)] at e1
              exact ent_of g2 j en p e1 e2
            · rw [List.getElem?_append_right hj] at e2
              have hj0 : j - es.length = 0 := by have := lt_of_at e2; simp at this; omega
              rw [hj0] at e2
              simp at e2; subst e2
              rw [Array.getElem?_push, if_pos (by omega)] at e1
              cases e1; exact ⟨hkr, hx⟩
      | some f =>
        obtain ⟨fi, fv⟩ := f
        cases q with
        | none => exact f2.elim
        | some q =>
          obtain ⟨qi, qd⟩ := q
          obtain ⟨hfq, hfr⟩ := f2
          have hfq' : fi = qi := hfq
          subst hfq'
          obtain ⟨rfl, rfl⟩ := some_pair hs4
          obtain ⟨_, pk, p1, p2⟩ := findK_at h3
          rw [Nat.sub_zero] at p1
          have hlt := lt_of_at p1
          have hen : ents[fi]? = some ents[fi] := Array.getElem?_eq_getElem (by omega)
          have hold := (ent_of g2 fi _ _ hen p1).1
          have hsb : Instr.sameBits 10000 ents[fi].key kv = true := sameBits_K 9999 hkr hold p2
          have hstay : (Instr.keyThatStays (((ents[fi]?).map (·.key)).getD kv) kv).run P w = .ok kv w := by
            rw [hen]
            simp only [Instr.keyThatStays, Option.map_some, Option.getD_some, hsb, if_true, Sem.run_pure]
          have hrun : (Instr.mapUpdate t (.map (some r.blk)) kv xv).run P w = .ok () { w with heap := w.heap.setIfInBounds r.blk (.map (ents.modify fi fun e => { e with key := kv, val := xv }) clock) } := by
            simp only [Instr.mapUpdate, Sem.run_bind, underlying_run hu, Result.andThen_ok, hgo, hck, f1, hstay, setObj_map _ g1]
          refine map_does (v := undef) (ents' := ents.modify fi fun e => { e with key := kv, val := xv }) (clock' := clock) hI hl hφ h1 (by simp [hsz]) (fun p hp => ?_) (fun j en p e1 e2 => ?_) (.inr ⟨by rw [hres, hrun]; rfl, rfl⟩) .undef
          · rcases List.mem_or_eq_of_mem_set hp with hp | rfl
            · exact g4 p hp
            · exact ⟨hkl, hxl⟩
          · rw [Array.getElem?_modify] at e1
            rw [List.getElem?_set] at e2
            by_cases hj : fi = j
            · subst hj
              simp only [if_true, hlt, hen, Option.map_some, Option.some.injEq] at e1 e2
              subst e1; subst e2; exact ⟨hkr, hx⟩
            · simp only [hj, if_false] at e1 e2
              exact ent_of g2 j en p e1 e2
  · cases hs

theorem del_sim {ts vs : Array _} {t k e ty : TypeId} {kt : KT} {m kd : D} {mv kv : Value} {res : Result Next} (ht : ts[0]? = some t) (hv0 : vs[0]? = some mv) (hv1 : vs[1]? = some kv) (hu : P.underlying t = some (.map k e)) (hk : keyT P k = some kt) (hI : Inv φ w T (getO T h)) (hl : h.length = T)
    (hm : Rep φ w mv m) (hkr : Rep φ w kv kd) (hs : delD bar T h kt kd m = some (d, h')) (hres : res = ((Builtin.delete_ ts ty vs).run P w).andThen fun r w' => .ok (.value r) w') : Does T (getO T h) φ w h' res d := by
  unfold delD at hs
  split at hs
  · rename_i l i
    obtain ⟨ob, h1, hs1⟩ := bnd_eq hs
    obtain ⟨es, h2, hs2⟩ := bnd_eq hs1
    obtain ⟨hq, hs3⟩ := brk_none hs2
    obtain ⟨q, h3, hs4⟩ := bnd_eq hs3
    have := asMap_eq h2; subst this
    simp only [Bool.and_eq_true, decide_eq_true_eq] at hq
    obtain ⟨hbar, hok⟩ := hq
    cases hm with
    | map l i r hφ =>
      obtain ⟨ents, clock, g1, g2⟩ := map_ents hI hφ h1
      obtain ⟨_, _, g1', g3, g4, _⟩ := hI.obj l i r _ hφ h1
      rw [g1] at g1'; cases g1'
      obtain ⟨f, f1, f2⟩ := findKey_run (P := P) hk hkr g2 h3
      have hck := checkKey_run (P := P) ents.isEmpty hk hkr hok
      have hgo := getObj_run (P := P) g1 (by simp)
      have hsz : ents.size = es.length := by simpa using g2.1
      cases f with
      | none =>
        cases q with
        | some q => exact f2.elim
        | none =>
          obtain ⟨rfl, rfl⟩ := some_pair hs4
          have hrun : (Builtin.delete_ ts ty vs).run P w = .ok (.tuple #[]) { w with heap := w.heap.setIfInBounds r.blk (.map ents clock) } := by
            simp only [Builtin.delete_, ht, hv0, hv1, Sem.run_bind, underlying_run hu, Result.andThen_ok, hgo, hck, f1, setObj_map _ g1, Sem.run_pure]
          exact map_does (v := .tuple #[]) hI hl hφ h1 hsz g4 (ent_of g2) (.inl (by rw [hres, hrun]; rfl)) .undef
      | some f =>
        obtain ⟨fi, fv⟩ := f
        cases q with
        | none => exact f2.elim
        | some q =>
          obtain ⟨qi, qd⟩ := q
          obtain ⟨hfq, hfr⟩ := f2
          have hfq' : fi = qi := hfq
          subst hfq'
          obtain ⟨rfl, rfl⟩ := some_pair hs4
          obtain ⟨_, pk, p1, p2⟩ := findK_at h3
          rw [Nat.sub_zero] at p1
          have hlt := lt_of_at p1
          have hrun : (Builtin.delete_ ts ty vs).run P w = .ok (.tuple #[]) { w with heap := w.heap.setIfInBounds r.blk (.map (ents.eraseIdxIfInBounds fi) clock) } := by
            simp only [Builtin.delete_, ht, hv0, hv1, Sem.run_bind, underlying_run hu, Result.andThen_ok, hgo, hck, f1, setObj_map _ g1, Sem.run_pure]
          have hlist : (ents.eraseIdxIfInBounds fi).toList = ents.toList.eraseIdx fi := by
            rw [Array.eraseIdxIfInBounds, dif_pos (by omega)]; simp
          refine map_does (v := .tuple #[]) (ents' := ents.eraseIdxIfInBounds fi) (clock' := clock) hI hl hφ h1 ?_ (fun p hp => g4 p (List.mem_of_mem_eraseIdx hp)) (fun j en p e1 e2 => ?_) (.inl (by rw [hres, hrun]; rfl)) .undef
          · rw [← Array.length_toList, hlist, List.length_eraseIdx, List.length_eraseIdx, if_pos (by simp; omega), if_pos hlt]
            simp [hsz]
          · rw [← Array.getElem?_toList, hlist, List.getElem?_eraseIdx] at e1
            rw [List.getElem?_eraseIdx] at e2
            split at e1
            · rename_i hj
              rw [if_pos hj] at e2
              exact ent_of g2 j en p (by simpa using e1) e2
            · rename_i hj
              rw [if_neg hj] at e2
              exact ent_of g2 (j + 1) en p (by simpa using e1) e2
  · cases hs
end
end AM
/- Every operation that calls nothing. -/
namespace AM
open Go

section
variable {φ : Refs} {w w' : World} {a : Act} {ρ : Env} {P : Program} {bar T : Nat} {h h' : Heap} {d : D}

theorem arr_two {xs : Array Operand} {x y : Operand} (h : xs.toList = [x, y]) : xs[0]? = some x ∧ xs[1]? = some y := by
  constructor
  · rw [← Array.getElem?_toList, h]; rfl
  · rw [← Array.getElem?_toList, h]; rfl

theorem lvlOf_ge {y : D} {es : List (List D)} {T : Nat} {h : Heap} (he : elems T h y = some es) {v : Value} (hr : Rep φ w v y) : lvlEs es ≤ lvlOf y es := by
  cases y <;> first | (exact Nat.le_refl _) | skip
  case sl es' =>
    simp only [elems, Option.some.injEq] at he; subst he
    cases hr with
    | slE => simp [lvlEs]
    | sl b o len cap sz es c hlen hcap himm hlv => simp [hlv]

theorem op_sim {o : Oper} {x : AOp} (hc : cOp P o.op = some x) (hs : step bar T x ρ h = some (d, h')) (he : EnvR φ w a ρ) (hI : Inv φ w T (getO T h)) (hl : h.length = T) (hF : Fresh T φ (getO T h) (getO T h')) :
    Does T (getO T h) φ w h' ((execOp a.eval o).run P w) d := by
  by_cases h1 : isPure x = true
  · obtain ⟨rfl, hp⟩ := pure_sim hc h1 hs he
    exact hp.does hI hl
  by_cases h2 : isRead x = true
  · obtain ⟨rfl, hp⟩ := read_sim hc h2 hs he hI
    exact hp.does hI hl
  by_cases h3 : isAlloc x = true
  · exact alloc_sim hc h3 hs he hI hl hF
  have hnp := cOp_np hc (by simpa using h1)
  obtain ⟨dst, op, ty, pos, after, guard⟩ := o
  simp only at hnp hc
  cases hnp <;> first | (exact absurd rfl h1) | (exact absurd rfl h2) | (exact absurd rfl h3) | skip
  case st t p x1 p' y n hn hp hy =>
    simp only [step] at hs
    obtain ⟨pd, g1, hs1⟩ := bnd_eq hs
    obtain ⟨xd, g2, hs2⟩ := bnd_eq hs1
    refine st_sim hn hI hl (opd_rep hp g1 he) (opd_rep hy g2 he) hs2 ?_
    simp only [execOp, Sem.run_bind, Sem.run_pure]
  case upd t k e m x1 v kt m' y v' hu hk hm hy hv =>
    simp only [step] at hs
    obtain ⟨md, g1, hs1⟩ := bnd_eq hs
    obtain ⟨kd, g2, hs2⟩ := bnd_eq hs1
    obtain ⟨vd, g3, hs3⟩ := bnd_eq hs2
    refine upd_sim hu hk hI hl (opd_rep hm g1 he) (opd_rep hy g2 he) (opd_rep hv g3 he) hs3 ?_
    simp only [execOp, Sem.run_bind, Sem.run_pure]
  case app c t u e e' s x1 s' y b n z hcal harg ht hu ht2 hu2 hz hn hb h0 hzn hb0 hs' hy =>
    simp only [step] at hs
    obtain ⟨sd, g1, hs1⟩ := bnd_eq hs
    obtain ⟨yd, g2, hs2⟩ := bnd_eq hs1
    obtain ⟨new, g3, hs3⟩ := bnd_eq hs2
    have hyr := opd_rep hy g2 he
    obtain ⟨a0, a1⟩ := arr_two harg
    refine append_sim (tx := u) (ty := ty) hu hz hn hb h0 hzn hb0 hI hl hF (opd_rep hs' g1 he) (fun hr => elems_src hu2 hI hyr g3 hr (by omega)) (lvlOf_ge g3 hyr) hs3 ?_
    simp only [execOp, resolve, hcal, Sem.run_bind, Sem.run_pure, Result.andThen_ok, invoke, builtin]
    rw [append_eq (t := t) (u := u) (s := a.eval s) (x := a.eval x1) ht ht2 (by simp [a0]) (by simp [a1])]
  case appS c t u e s x1 s' y z hcal harg ht hu ht2 hu2 hz hn hb hzn hs' hy =>
    simp only [step] at hs
    obtain ⟨sd, g1, hs1⟩ := bnd_eq hs
    obtain ⟨yd, g2, hs2⟩ := bnd_eq hs1
    obtain ⟨str, g3, hs3⟩ := bnd_eq hs2
    have hyr := (opd_rep hy g2 he).asStr_inv g3
    obtain ⟨a0, a1⟩ := arr_two harg
    have hlen : (chars str).length = str.length := by simp [chars]
    refine append_sim (tx := u) (ty := ty) (v := a.eval x1) hu hz hn hb (by omega) hzn (by omega) hI hl hF (opd_rep hs' g1 he) (fun hr => ⟨byteCells ⟨str.toArray⟩, ?_, chars_row str⟩) ?_ hs3 ?_
    · rw [hyr, hlen]
      exact Src.ofString w hu2 ⟨str.toArray⟩
    · refine Nat.le_of_eq (lvlEs_zero fun cs hcs => ?_)
      obtain ⟨b, _, rfl⟩ := List.mem_map.1 hcs
      rfl
    · simp only [execOp, resolve, hcal, Sem.run_bind, Sem.run_pure, Result.andThen_ok, invoke, builtin]
      rw [append_eq (t := t) (u := u) (s := a.eval s) (x := a.eval x1) ht ht2 (by simp [a0]) (by simp [a1])]
  case del c t k e m x1 kt m' y hcal harg ht hu hk hm hy =>
    simp only [step] at hs
    obtain ⟨md, g1, hs1⟩ := bnd_eq hs
    obtain ⟨kd, g2, hs2⟩ := bnd_eq hs1
    obtain ⟨a0, a1⟩ := arr_two harg
    refine del_sim (ts := c.argTypes) (vs := c.args.map a.eval) (ty := ty) ht (mv := a.eval m) (kv := a.eval x1) (by simp [a0]) (by simp [a1]) hu hk hI hl (opd_rep hm g1 he) (opd_rep hy g2 he) hs2 ?_
    simp only [execOp, resolve, hcal, Sem.run_bind, Sem.run_pure, Result.andThen_ok, invoke, builtin]
  case call => simp [step] at hs
  case inv => simp [step] at hs
end
end AM
/- What runs of the abstract machine leave alone, and what they look at. -/
namespace AM
open Go

/-! ### What an operation looks at -/
section
variable {ρ ρ' : Env} {bar T : Nat} {h : Heap}

theorem us_left {P : Nat → Prop} {a b : List Nat} (h : ∀ t ∈ a ++ b, P t) : ∀ t ∈ a, P t := fun t ht => h t (List.mem_append_left _ ht)
theorem us_right {P : Nat → Prop} {a b : List Nat} (h : ∀ t ∈ a ++ b, P t) : ∀ t ∈ b, P t := fun t ht => h t (List.mem_append_right _ ht)

theorem ev_us {x : Opd} (h : ∀ t ∈ x.us, lk ρ' t = lk ρ t) : x.ev ρ' = x.ev ρ := by
  cases x with
  | t n => exact h n (by simp [Opd.us])
  | c d => rfl
theorem evAll_us : ∀ {xs : List Opd}, (∀ t ∈ usAll xs, lk ρ' t = lk ρ t) → evAll ρ' xs = evAll ρ xs
  | [], _ => rfl
  | x :: r, h => by simp only [evAll, ev_us (us_left h), evAll_us (us_right h)]
theorem bound_us {o : Option Opd} {d n : Nat} (h : ∀ t ∈ usOpt o, lk ρ' t = lk ρ t) : bound ρ' o d n = bound ρ o d n := by
  cases o with
  | none => rfl
  | some x => simp only [bound, ev_us (show ∀ t ∈ x.us, _ from h)]
theorem fills_us : ∀ {ps : List (Nat × Nat × Opd)} {cs : List D}, (∀ t ∈ usP3 ps, lk ρ' t = lk ρ t) → fills ρ' ps cs = fills ρ ps cs
  | [], _, _ => rfl
  | (_, _, x) :: r, cs, h => by simp only [fills, ev_us (us_left h), fills_us (us_right h)]
theorem fillEs_us {sz : Nat} : ∀ {ps : List (Nat × Opd)} {es : List (List D)}, (∀ t ∈ usP2 ps, lk ρ' t = lk ρ t) → fillEs ρ' sz ps es = fillEs ρ sz ps es
  | [], _, _ => rfl
  | (_, x) :: r, es, h => by simp only [fillEs, ev_us (us_left h), fillEs_us (us_right h)]

theorem step_us {o : AOp} (hu : ∀ t ∈ o.us, lk ρ' t = lk ρ t) : step bar T o ρ' h = step bar T o ρ h := by
  cases o <;> simp only [AOp.us] at hu
  case slS x lo hi => simp only [step, ev_us (us_left hu), fun d n => bound_us (d := d) (n := n) (us_left (us_right hu)), fun d n => bound_us (d := d) (n := n) (us_right (us_right hu))]
  case slV sz x lo hi mx =>
    have h1 := fun d n => bound_us (d := d) (n := n) (us_left (us_right hu))
    have h2 := fun d n => bound_us (d := d) (n := n) (us_left (us_right (us_right hu)))
    have h3 := fun d n => bound_us (d := d) (n := n) (us_right (us_right (us_right hu)))
    have : ∀ d, slVD T sz h ρ' lo hi mx d = slVD T sz h ρ lo hi mx d := by
      intro d
      cases d <;> try rfl
      all_goals (cases mx <;> simp only [slVD, h1, h2, h3])
    simp only [step, ev_us (us_left hu), this]
  case build z ps => simp only [step, fills_us hu]
  case bsl z len ps => simp only [step, fillEs_us hu]
  case mkf f a b => simp only [step, evAll_us (us_left hu), evAll_us (us_right hu)]
  case mx x xs => simp only [step, ev_us (us_left hu), evAll_us (us_right hu)]
  case mn x xs => simp only [step, ev_us (us_left hu), evAll_us (us_right hu)]
  all_goals first
    | rfl
    | (simp only [step, ev_us hu]; done)
    | (simp only [step, ev_us (us_left hu), ev_us (us_right hu)]; done)
    | (simp only [step, ev_us (us_left hu), ev_us (us_left (us_right hu)), ev_us (us_right (us_right hu))]; done)

theorem opD_us {A : Prog} {S : Mch} {o : AOp} (hu : ∀ t ∈ o.us, lk ρ' t = lk ρ t) : opD A S bar T o ρ' h = opD A S bar T o ρ h := by
  cases o
  case call f args b =>
    simp only [AOp.us] at hu
    simp only [opD, ev_us (us_left hu), evAll_us (us_right hu)]
  case inv x name args b =>
    simp only [AOp.us] at hu
    simp only [opD, ev_us (us_left hu), evAll_us (us_right hu)]
  all_goals (simp only [opD]; exact step_us hu)

/-- The part of an environment that is looked at. -/
def only (us : List Nat) (ρ : Env) : Env := ρ.filter fun p => us.contains p.1
theorem lk_only (us : List Nat) : ∀ (ρ : Env) (t : Nat), lk (only us ρ) t = if t ∈ us then lk ρ t else none
  | [], t => by simp [only, lk]
  | (k, d) :: r, t => by
    have ih := lk_only us r t
    unfold only at ih ⊢
    by_cases hk : us.contains k = true
    · rw [List.filter_cons_of_pos (by simpa using hk)]
      simp only [lk]
      by_cases e : k = t
      · subst e
        have : k ∈ us := by simpa using hk
        simp [this]
      · have : (k == t) = false := by simpa using e
        simp only [this, brk_false]; exact ih
    · rw [List.filter_cons_of_neg (by simpa using hk)]
      rw [ih]
      by_cases e : k = t
      · subst e
        have : ¬ k ∈ us := by simpa using hk
        simp [this]
      · have : (k == t) = false := by simpa using e
        simp only [lk, this, brk_false]
end

/-! ### What a run leaves alone -/
theorem bsame {α β : Type} {Q : Prop} {a : Option α} {f : α → Option β} {r : β} (h : ∀ x, f x = some r → Q) (hs : bnd a f = some r) : Q := let ⟨x, _, h1⟩ := bnd_eq hs; h x h1

structure Keep (bar T : Nat) (h h' : Heap) : Prop where
  len : h'.length = T
  low : ∀ l i, l < bar → getO T h' l i = getO T h l i
  grow : ∀ l i, (getO T h l i).isSome → (getO T h' l i).isSome

theorem Keep.refl {bar T : Nat} {h : Heap} (hl : h.length = T) : Keep bar T h h := ⟨hl, fun _ _ _ => rfl, fun _ _ h => h⟩
theorem Keep.trans {bar T : Nat} {h h1 h2 : Heap} (a : Keep bar T h h1) (b : Keep bar T h1 h2) : Keep bar T h h2 :=
  ⟨b.len, fun l i hl => (b.low l i hl).trans (a.low l i hl), fun l i hl => b.grow l i (a.grow l i hl)⟩
theorem Keep.mono {bar bar' T : Nat} {h h1 : Heap} (hb : bar ≤ bar') (a : Keep bar' T h h1) : Keep bar T h h1 :=
  ⟨a.len, fun l i hl => a.low l i (by omega), a.grow⟩

section
variable {bar T : Nat} {h h' : Heap} {d : D} {ρ : Env}

theorem keep_set {l i : Nat} {o : Obj} (hl : h.length = T) (hb : bar ≤ l) (hx : (getO T h l i).isSome) : Keep bar T h (setO T h l i o) :=
  ⟨by rw [setO_length, hl], fun l' i' hl' => by rw [getO_setO _ hl _ _ hx, if_neg (by omega)], fun l' i' hs => by
    rw [getO_setO _ hl _ _ hx]
    split
    · rfl
    · exact hs⟩

theorem keep_new {l : Nat} {o : Obj} {mk : Nat → D} (hl : h.length = T) (hb : bar ≤ l) (hs : newO T h l o mk = some (d, h')) : Keep bar T h h' := by
  obtain ⟨i, _, g1, g2, g3, g4⟩ := newO_eq hl hs
  refine ⟨g1, fun l' i' hl' => by rw [g4, if_neg (by omega)], fun l' i' hs => ?_⟩
  rw [g4]
  split
  · rfl
  · exact hs

theorem keep_append {bytes sz lv : Nat} {s : D} {new : List (List D)} (hl : h.length = T) (hb : bar < T) (hs : appendD bar T bytes sz h s new lv = some (d, h')) : Keep bar T h h' := by
  unfold appendD at hs
  split at hs
  · rcases brk_eq hs with ⟨_, h1⟩ | ⟨_, h1⟩
    · obtain ⟨_, rfl⟩ := some_pair h1; exact .refl hl
    · obtain ⟨_, h2⟩ := brk_none h1; exact keep_new hl (by omega) h2
  · obtain ⟨_, h1⟩ := brk_none hs
    obtain ⟨_, rfl⟩ := some_pair h1; exact .refl hl
  · obtain ⟨o, h1, hs1⟩ := bnd_eq hs
    obtain ⟨es, h2, hs2⟩ := bnd_eq hs1
    obtain ⟨hq, hs3⟩ := brk_none hs2
    simp only [Bool.and_eq_true, decide_eq_true_eq] at hq
    rcases brk_eq hs3 with ⟨_, h3⟩ | ⟨_, h3⟩
    · obtain ⟨_, rfl⟩ := some_pair h3
      exact keep_set hl hq.2.1 (by rw [h1]; rfl)
    · obtain ⟨_, h4⟩ := brk_none h3
      exact (keep_set hl hq.2.1 (by rw [h1]; rfl)).trans (keep_new (by rw [setO_length, hl]) hq.2.1 h4)
  · cases hs

theorem step_keep {o : AOp} (hl : h.length = T) (hb : bar < T) (hs : step bar T o ρ h = some (d, h')) : Keep bar T h h' := by
  cases o <;> simp only [step] at hs
  case alloc z => exact keep_new hl (by omega) hs
  case mkm => exact keep_new hl (by omega) hs
  case box x =>
    obtain ⟨_, _, h1⟩ := bnd_eq hs
    obtain ⟨_, h2⟩ := brk_none h1
    exact keep_new hl (by omega) h2
  case bsl z len ps =>
    obtain ⟨_, _, h1⟩ := bnd_eq hs
    obtain ⟨_, h2⟩ := brk_none h1
    exact keep_new hl (by omega) h2
  case mksl bytes z len cap =>
    obtain ⟨_, _, h1⟩ := bnd_eq hs
    obtain ⟨_, _, h2⟩ := bnd_eq h1
    obtain ⟨_, _, h3⟩ := bnd_eq h2
    obtain ⟨_, _, h4⟩ := bnd_eq h3
    unfold mkslD at h4
    obtain ⟨_, h5⟩ := brk_none h4
    rcases brk_eq h5 with ⟨_, h6⟩ | ⟨_, h6⟩
    · exact keep_new hl (by omega) h6
    · obtain ⟨_, h7⟩ := brk_none h6
      exact keep_new hl (by omega) h7
  case st n a x =>
    obtain ⟨p, _, h1⟩ := bnd_eq hs
    obtain ⟨y, _, h2⟩ := bnd_eq h1
    unfold stD at h2
    split at h2
    · obtain ⟨o, h3, hs1⟩ := bnd_eq h2
      obtain ⟨es, h4, hs2⟩ := bnd_eq hs1
      obtain ⟨cs, h5, hs3⟩ := bnd_eq hs2
      obtain ⟨hq, hs4⟩ := brk_none hs3
      obtain ⟨_, rfl⟩ := some_pair hs4
      simp only [Bool.and_eq_true, decide_eq_true_eq, may] at hq
      exact keep_set hl hq.1.2.1 (by rw [h3]; rfl)
    · cases h2
  case app bytes sz s x =>
    obtain ⟨p, _, h1⟩ := bnd_eq hs
    obtain ⟨y, _, h2⟩ := bnd_eq h1
    obtain ⟨new, _, h3⟩ := bnd_eq h2
    exact keep_append hl hb h3
  case appS s x =>
    obtain ⟨p, _, h1⟩ := bnd_eq hs
    obtain ⟨y, _, h2⟩ := bnd_eq h1
    obtain ⟨new, _, h3⟩ := bnd_eq h2
    exact keep_append hl hb h3
  case upd t m k x =>
    obtain ⟨p, _, h1⟩ := bnd_eq hs
    obtain ⟨y, _, h2⟩ := bnd_eq h1
    obtain ⟨z, _, h3⟩ := bnd_eq h2
    unfold updD at h3
    split at h3
    · obtain ⟨o, h4, hs1⟩ := bnd_eq h3
      obtain ⟨es, h5, hs2⟩ := bnd_eq hs1
      obtain ⟨hq, hs3⟩ := brk_none hs2
      obtain ⟨q, h6, hs4⟩ := bnd_eq hs3
      simp only [Bool.and_eq_true, decide_eq_true_eq, may] at hq
      cases q with
      | none => obtain ⟨_, rfl⟩ := some_pair hs4; exact keep_set hl hq.1.1.1 (by rw [h4]; rfl)
      | some q => obtain ⟨_, rfl⟩ := some_pair hs4; exact keep_set hl hq.1.1.1 (by rw [h4]; rfl)
    · cases h3
  case del t m k =>
    obtain ⟨p, _, h1⟩ := bnd_eq hs
    obtain ⟨y, _, h2⟩ := bnd_eq h1
    unfold delD at h2
    split at h2
    · obtain ⟨o, h4, hs1⟩ := bnd_eq h2
      obtain ⟨es, h5, hs2⟩ := bnd_eq hs1
      obtain ⟨hq, hs3⟩ := brk_none hs2
      obtain ⟨q, h6, hs4⟩ := bnd_eq hs3
      simp only [Bool.and_eq_true, decide_eq_true_eq] at hq
      cases q with
      | none => obtain ⟨_, rfl⟩ := some_pair hs4; exact keep_set hl hq.1 (by rw [h4]; rfl)
      | some q => obtain ⟨_, rfl⟩ := some_pair hs4; exact keep_set hl hq.1 (by rw [h4]; rfl)
    · cases h2
  all_goals first
    | (cases hs; done)
    | (revert hs
       repeat refine bsame fun _ => ?_
       intro hs
       obtain ⟨_, rfl⟩ := some_pair hs
       exact .refl hl)
end

/-- Calls and loops leave alone what they must. -/
structure Keeps (S : Mch) : Prop where
  call : ∀ bar T f args h d h', h.length = T → bar ≤ T → S.call bar T f args h = some (d, h') → Keep bar T h h'
  lp : ∀ bar T b ρ h e ρ' h', h.length = T → bar < T → S.lp bar T b ρ h = some (e, ρ', h') → Keep bar T h h'

section
variable {A : Prog} {S : Mch} {bar T : Nat}

theorem callFn_keep (hS : Keeps S) {g : Fn} {args cap : List D} {h h' : Heap} {d : D} (hl : h.length = T) (hb : bar ≤ T) (hs : callFn A S bar T g args cap h = some (d, h')) : Keep bar T h h' := by
  unfold callFn at hs
  split at hs
  · exact hS.call _ _ _ _ _ _ _ hl hb hs
  · split at hs
    · obtain ⟨f, _, h1⟩ := bnd_eq hs
      exact hS.call _ _ _ _ _ _ _ hl hb h1
    · cases hs
  · cases hs

theorem opD_keep (hS : Keeps S) {o : AOp} {ρ : Env} {h h' : Heap} {d : D} (hl : h.length = T) (hb : bar < T) (hs : opD A S bar T o ρ h = some (d, h')) : Keep bar T h h' := by
  cases o
  case call f args b =>
    simp only [opD] at hs
    obtain ⟨fd, _, h1⟩ := bnd_eq hs
    obtain ⟨ds, _, h2⟩ := bnd_eq h1
    unfold callDD at h2
    split at h2
    · cases b
      · exact callFn_keep (bar := bar) hS hl (Nat.le_of_lt hb) h2
      · exact (callFn_keep (bar := T) hS hl (Nat.le_refl _) h2).mono (Nat.le_of_lt hb)
    · cases h2
  case inv x name args b =>
    simp only [opD] at hs
    obtain ⟨fd, _, h1⟩ := bnd_eq hs
    obtain ⟨ds, _, h2⟩ := bnd_eq h1
    unfold invDD at h2
    split at h2
    · obtain ⟨f, _, h3⟩ := bnd_eq h2
      cases b
      · exact hS.call bar _ _ _ _ _ _ hl (Nat.le_of_lt hb) h3
      · exact (hS.call T _ _ _ _ _ _ hl (Nat.le_refl _) h3).mono (Nat.le_of_lt hb)
    · cases h2
  all_goals (simp only [opD] at hs; exact step_keep hl hb hs)

theorem opsD_keep (hS : Keeps S) : ∀ {os : List AOper} {ρ ρ' : Env} {h h' : Heap}, h.length = T → bar < T → opsD A S bar T os ρ h = some (ρ', h') → Keep bar T h h'
  | [], ρ, ρ', h, h', hl, hb, hs => by
    simp only [opsD, Option.some.injEq, Prod.mk.injEq] at hs
    obtain ⟨_, rfl⟩ := hs; exact .refl hl
  | o :: os, ρ, ρ', h, h', hl, hb, hs => by
    simp only [opsD] at hs
    obtain ⟨b, _, h1⟩ := bnd_eq hs
    rcases brk_eq h1 with ⟨_, h2⟩ | ⟨_, h2⟩
    · obtain ⟨p, h3, h4⟩ := bnd_eq h2
      obtain ⟨pd, ph⟩ := p
      have k := opD_keep hS hl hb h3
      exact k.trans (opsD_keep hS k.len hb h4)
    · exact opsD_keep hS hl hb h2

theorem exec_keep (hS : Keeps S) (hb : bar < T) : ∀ {c : ACode} {ρ ρ' : Env} {h h' : Heap} {e : Ex}, h.length = T → exec A S bar T c ρ h = some (e, ρ', h') → Keep bar T h h'
  | .skip, ρ, ρ', h, h', e, hl, hs => by simp only [exec, Option.some.injEq, Prod.mk.injEq] at hs; obtain ⟨_, _, rfl⟩ := hs; exact .refl hl
  | .exit id, ρ, ρ', h, h', e, hl, hs => by simp only [exec, Option.some.injEq, Prod.mk.injEq] at hs; obtain ⟨_, _, rfl⟩ := hs; exact .refl hl
  | .ret, ρ, ρ', h, h', e, hl, hs => by simp only [exec, Option.some.injEq, Prod.mk.injEq] at hs; obtain ⟨_, _, rfl⟩ := hs; exact .refl hl
  | .bad _, ρ, ρ', h, h', e, hl, hs => by simp [exec] at hs
  | .reg os dr, ρ, ρ', h, h', e, hl, hs => by
    simp only [exec] at hs
    obtain ⟨p, h1, h2⟩ := bnd_eq hs
    obtain ⟨p1, p2⟩ := p
    simp only [Option.some.injEq, Prod.mk.injEq] at h2
    obtain ⟨_, _, rfl⟩ := h2
    exact opsD_keep hS hl hb h1
  | .loop b, ρ, ρ', h, h', e, hl, hs => hS.lp _ _ _ _ _ _ _ _ hl hb hs
  | .kp ks c, ρ, ρ', h, h', e, hl, hs => by
    simp only [exec] at hs
    obtain ⟨p, _, h2⟩ := bnd_eq hs
    exact exec_keep hS hb hl h2
  | .cond c x y, ρ, ρ', h, h', e, hl, hs => by
    simp only [exec] at hs
    obtain ⟨p, _, h2⟩ := bnd_eq hs
    obtain ⟨t, _, h3⟩ := bnd_eq h2
    rcases brk_eq h3 with ⟨_, h4⟩ | ⟨_, h4⟩
    · exact exec_keep hS hb hl h4
    · exact exec_keep hS hb hl h4
  | .seq a b, ρ, ρ', h, h', e, hl, hs => by
    simp only [exec] at hs
    cases ha : exec A S bar T a ρ h with
    | none => rw [ha] at hs; simp at hs
    | some p =>
      obtain ⟨e1, ρ1, h1⟩ := p
      have k := exec_keep hS hb hl ha
      rw [ha] at hs
      cases e1 with
      | normal => simp only [thn_normal] at hs; exact k.trans (exec_keep hS hb k.len hs)
      | exit n => simp only [thn_exit, Option.some.injEq, Prod.mk.injEq] at hs; obtain ⟨_, _, rfl⟩ := hs; exact k
      | ret => simp only [thn_ret, Option.some.injEq, Prod.mk.injEq] at hs; obtain ⟨_, _, rfl⟩ := hs; exact k
  | .blk id b, ρ, ρ', h, h', e, hl, hs => by
    simp only [exec] at hs
    cases ha : exec A S bar T b ρ h with
    | none => rw [ha] at hs; simp [inBlk] at hs
    | some p =>
      obtain ⟨e1, ρ1, h1⟩ := p
      have k := exec_keep hS hb hl ha
      rw [ha] at hs
      cases e1 with
      | normal => simp only [inBlk, Option.some.injEq, Prod.mk.injEq] at hs; obtain ⟨_, _, rfl⟩ := hs; exact k
      | ret => simp only [inBlk, Option.some.injEq, Prod.mk.injEq] at hs; obtain ⟨_, _, rfl⟩ := hs; exact k
      | exit n =>
        simp only [inBlk] at hs
        rcases brk_eq hs with ⟨_, h4⟩ | ⟨_, h4⟩ <;> (simp only [Option.some.injEq, Prod.mk.injEq] at h4; obtain ⟨_, _, rfl⟩ := h4; exact k)

theorem getO_push {h : Heap} (f : List Obj) {l i : Nat} (hl : l < T) : getO (T + 1) (f :: h) l i = getO T h l i := by
  have : (l + 1 == T + 1) = false := by simp; omega
  simp only [getO, this, brk_false, Nat.add_sub_cancel]
theorem getO_top {h : Heap} (f : List Obj) {i : Nat} : getO (T + 1) (f :: h) T i = f[i]? := by
  simp [getO]

theorem endD_eq {T : Nat} {res : List ARes} {tr : Bool} {r : Option (Ex × Env × Heap)} {d : D} {h' : Heap} (hs : endD T res tr r = some (d, h')) :
    ∃ e ρ1 h1 ds, r = some (e, ρ1, h1) ∧ (e = .normal ∨ e = .ret) ∧ resD T ρ1 h1 res = some ds ∧ ((tr = true ∧ d = tupD ds ∧ h' = h1) ∨ (tr = false ∧ frz T h1 50 (tupD ds) = some d ∧ h' = h1.tail)) := by
  unfold endD at hs
  obtain ⟨p, h0, h1⟩ := bnd_eq hs
  obtain ⟨e, ρ1, hh⟩ := p
  have fin : ∀ {e' : Ex}, (e' = .normal ∨ e' = .ret) → (bnd (resD T ρ1 hh res) fun ds => brk tr (some (tupD ds, hh)) (bnd (frz T hh 50 (tupD ds)) fun d => some (d, hh.tail))) = some (d, h') → ∃ ds, resD T ρ1 hh res = some ds ∧ ((tr = true ∧ d = tupD ds ∧ h' = hh) ∨ (tr = false ∧ frz T hh 50 (tupD ds) = some d ∧ h' = hh.tail)) := by
    intro _ _ hq
    obtain ⟨ds, g1, g2⟩ := bnd_eq hq
    rcases brk_eq g2 with ⟨g3, g4⟩ | ⟨g3, g4⟩
    · obtain ⟨rfl, rfl⟩ := some_pair g4; exact ⟨ds, g1, .inl ⟨g3, rfl, rfl⟩⟩
    · obtain ⟨d', g5, g6⟩ := bnd_eq g4
      obtain ⟨rfl, rfl⟩ := some_pair g6; exact ⟨ds, g1, .inr ⟨g3, g5, rfl⟩⟩
  cases e with
  | exit n => simp at h1
  | normal => obtain ⟨ds, g⟩ := fin (.inl rfl) h1; exact ⟨_, ρ1, hh, ds, h0, .inl rfl, g⟩
  | ret => obtain ⟨ds, g⟩ := fin (.inr rfl) h1; exact ⟨_, ρ1, hh, ds, h0, .inr rfl, g⟩

theorem keep_pop {h h1 : Heap} (hl : h.length = T) (k : Keep bar (T + 1) ([] :: h) h1) (hb : bar ≤ T) : Keep bar T h h1.tail := by
  cases h1 with
  | nil => have := k.len; simp at this
  | cons f r =>
    have hr : r.length = T := by have := k.len; simpa using this
    refine ⟨hr, fun l i hlt => ?_, fun l i hs => ?_⟩
    · have := k.low l i hlt
      rw [getO_push f (by omega), getO_push [] (by omega)] at this
      exact this
    · cases hq : getO T h l i with
      | none => rw [hq] at hs; cases hs
      | some o =>
        have hlt := getO_lt hl hq
        have := k.grow l i (by rw [getO_push [] hlt, hq]; rfl)
        rwa [getO_push f hlt] at this

theorem callB_keep (hS : Keeps S) {f : FuncId} {args : List D} {h h' : Heap} {d : D} (hl : h.length = T) (hb : bar ≤ T) (hs : callB A S bar T f args h = some (d, h')) : Keep bar T h h' := by
  unfold callB at hs
  split at hs
  · obtain ⟨x, _, h1⟩ := bnd_eq hs
    obtain ⟨_, rfl⟩ := some_pair h1
    exact .refl hl
  · obtain ⟨fn, _, h1⟩ := bnd_eq hs
    rcases brk_eq h1 with ⟨htr, h2⟩ | ⟨htr, h2⟩
    · obtain ⟨hlt, h3⟩ := brk_none h2
      simp only [decide_eq_true_eq] at hlt
      obtain ⟨e, ρ1, hh, ds, g1, g2, g3, g4⟩ := endD_eq h3
      have k := exec_keep hS hlt hl g1
      rcases g4 with ⟨_, _, rfl⟩ | ⟨hf, _, _⟩
      · exact k
      · cases hf
    · obtain ⟨e, ρ1, hh, ds, g1, g2, g3, g4⟩ := endD_eq h2
      have k := exec_keep hS (T := T + 1) (by omega) (by simp [hl]) g1
      rcases g4 with ⟨hf, _, _⟩ | ⟨_, _, rfl⟩
      · cases hf
      · exact keep_pop hl k hb

theorem lpB_keep (hS : Keeps S) {b : ACode} {ρ ρ' : Env} {h h' : Heap} {e : Ex} (hl : h.length = T) (hb : bar < T) (hs : lpB A S bar T b ρ h = some (e, ρ', h')) : Keep bar T h h' := by
  unfold lpB at hs
  cases ha : exec A S bar T b ρ h with
  | none => rw [ha] at hs; simp at hs
  | some p =>
    obtain ⟨e1, ρ1, h1⟩ := p
    have k := exec_keep hS hb hl ha
    rw [ha] at hs
    cases e1 with
    | normal => simp only [thn_normal] at hs; exact k.trans (hS.lp _ _ _ _ _ _ _ _ k.len hb hs)
    | exit n => simp only [thn_exit, Option.some.injEq, Prod.mk.injEq] at hs; obtain ⟨_, _, rfl⟩ := hs; exact k
    | ret => simp only [thn_ret, Option.some.injEq, Prod.mk.injEq] at hs; obtain ⟨_, _, rfl⟩ := hs; exact k

theorem iter_keeps (A : Prog) : ∀ n, Keeps (iter A n)
  | 0 => ⟨fun _ _ _ _ _ _ _ _ _ h => (by cases h), fun _ _ _ _ _ _ _ _ _ _ h => (by cases h)⟩
  | n + 1 => ⟨fun _ _ _ _ _ _ _ hl hb h => callB_keep (iter_keeps A n) hl hb h, fun _ _ _ _ _ _ _ _ hl hb h => lpB_keep (iter_keeps A n) hl hb h⟩
end
end AM
/- An operation of a region, calls too: the model's rule from the abstract machine's step. -/
namespace AM
open Go

/-- What a call comes to. -/
def CallTo (P : Program) (T : Nat) (C : Cont) (φ : Refs) (w : World) (f : FuncId) (vs : Array Value) (h' : Heap) (d : D) : Prop :=
  ((callFunc f vs).run P w = .ok (.enter f vs) w ∧ Calls P f vs w fun e w' => ∃ v φ', e = .returned v ∧ Rep φ' w' v d ∧ Ext T C φ w (getO T h') φ' w' ∧ Inv φ' w' T (getO T h')) ∨
  ∃ v w' φ', (callFunc f vs).run P w = .ok (.value v) w' ∧ Rep φ' w' v d ∧ Ext T C φ w (getO T h') φ' w' ∧ Inv φ' w' T (getO T h')

/-- Arguments by their data. -/
def Args (φ : Refs) (w : World) (vs : Array Value) (ds : List D) : Prop := vs.size = ds.length ∧ ∀ (i : Nat) (v : Value) (d : D), vs[i]? = some v → ds[i]? = some d → Rep φ w v d

def CallSim (P : Program) (S : Mch) : Prop := ∀ bar T f ds h d h' φ w vs, h.length = T → bar ≤ T → S.call bar T f ds h = some (d, h') → Inv φ w T (getO T h) → Args φ w vs ds → Fresh T φ (getO T h) (getO T h') → CallTo P T (getO T h) φ w f vs h' d

/-- The abstract program belongs to the program. -/
structure Links (P : Program) (A : Prog) : Prop where
  fn : ∀ f fn, A.fn f = some fn → ∃ g, P.funcs[f]? = some g ∧ (g.name == "runtime.NumGoroutine") = false ∧ cFun P g = some (strip fn.body, fn.res)
  orc : ∀ f o, A.orc f = some o → ∀ φ w vs ds d, Args φ w vs ds → o ds = some d → ∃ v, (callFunc f vs).run P w = .ok (.value v) w ∧ Rep φ w v d
  meth : ∀ t name f, A.meth t name = some f → cMeth P t name = some f

section
variable {P : Program} {A : Prog} {S : Mch} {φ : Refs} {w : World} {a : Act} {ρ : Env} {bar T : Nat} {h h' : Heap} {d : D}

theorem Args.append {us vs : Array Value} {ds es : List D} (h1 : Args φ w us ds) (h2 : Args φ w vs es) : Args φ w (us ++ vs) (ds ++ es) := by
  refine ⟨by simp [h1.1, h2.1], fun i v d hv hd => ?_⟩
  rcases Nat.lt_or_ge i us.size with hi | hi
  · rw [Array.getElem?_append_left hi] at hv
    rw [List.getElem?_append_left (by have := h1.1; omega)] at hd
    exact h1.2 i v d hv hd
  · rw [Array.getElem?_append_right hi] at hv
    rw [List.getElem?_append_right (by have := h1.1; omega)] at hd
    rw [← h1.1] at hd
    exact h2.2 _ v d hv hd

theorem Args.one {v : Value} {d : D} (h : Rep φ w v d) : Args φ w #[v] [d] := by
  refine ⟨rfl, fun i u e hu he => ?_⟩
  cases i with
  | zero => simp at hu he; subst hu; subst he; exact h
  | succ i => simp at he

theorem Args.of_opds {xs : Array Operand} {ys : List Opd} {ds : List D} (h1 : cOpds xs.toList = some ys) (h2 : evAll ρ ys = some ds) (he : EnvR φ w a ρ) : Args φ w (xs.map a.eval) ds := by
  have := Rep.arr (a := a) (opds_rep h1 h2 he)
  exact this

theorem method_run {t : TypeId} {name : String} {f : FuncId} {v : Value} {n : Nat} (h : cMeth P t name = some f) : (method (n + 1) t v name).run P w = .ok (f, v) w := by
  unfold cMeth at h
  cases hi : P.info? t with
  | none => simp [hi] at h
  | some i =>
    simp only [hi, Option.bind_some] at h
    cases hm : i.methods.find? (·.name == name) with
    | none => simp [hm] at h
    | some m =>
      simp only [hm] at h
      split at h
      · rename_i hp
        have hp' : m.path.toList = [] := by simpa using hp
        split at h
        · rename_i g e h1 h2
          simp only [Option.some.injEq] at h; subst h
          simp [method, typeInfo, hi, hm, hp', follow, h1, receiverAt, underlying, h2, Place.get]
        · cases h
        · rename_i g u n1 h1 h2
          simp only [Option.some.injEq] at h; subst h
          simp only [method, typeInfo, Sem.run_bind, run_program, hi, Sem.run_pure, Result.andThen_ok, hm, hp', follow, h1, receiverAt, underlying, h2]
          cases u <;> first | (exact absurd rfl (n1 _)) | rfl
        · cases h
      · cases h

/-- A method through an interface. -/
theorem callMethod_run {t : TypeId} {name : String} {f : FuncId} {v : Value} {args : Array Value} (h : cMeth P t name = some f) : (callMethod (.iface t v) name args).run P w = (callFunc f (#[v] ++ args)).run P w := by
  obtain ⟨n, hn⟩ : ∃ n, P.types.size + Made.depth = n + 1 := ⟨P.types.size + 99, rfl⟩
  simp only [callMethod, Sem.run_bind, run_program, Result.andThen_ok, hn, method_run h]

/-- What a call comes to, as the rule of an operation. -/
theorem CallTo.upon {o : Oper} {f : FuncId} {vs : Array Value} {next : Act → World → Prop} {Q : Exit → Act → World → Prop} (hc : CallTo P T (getO T h) φ w f vs h' d) (hrun : (execOp a.eval o).run P w = (callFunc f vs).run P w)
    (hnext : ∀ v w' φ', Rep φ' w' v d → Ext T (getO T h) φ w (getO T h') φ' w' → Inv φ' w' T (getO T h') → next (a.put o.dst v) w') : o.wp P a w next Q := by
  unfold Oper.wp
  rw [hrun]
  rcases hc with ⟨h1, h2⟩ | ⟨v, w', φ', h1, h2, h3, h4⟩
  · rw [h1, Oper.upon_enter]
    refine Calls.mono h2 fun e w' he => ?_
    obtain ⟨v, φ', rfl, g1, g2, g3⟩ := he
    exact hnext v w' φ' g1 g2 g3
  · rw [h1, Oper.upon_value]
    exact hnext v w' φ' h2 h3 h4

theorem callFn_sim (hL : Links P A) (hS : CallSim P S) {g : Fn} {args cap : List D} {vs us : Array Value} (hl : h.length = T) (hb : bar ≤ T) (hI : Inv φ w T (getO T h)) (hF : Fresh T φ (getO T h) (getO T h')) (ha : Args φ w vs args) (hu : Args φ w us cap)
    (hs : callFn A S bar T g args cap h = some (d, h')) : ∃ f ws, (invoke (.fn g us) vs).run P w = (callFunc f ws).run P w ∧ CallTo P T (getO T h) φ w f ws h' d := by
  unfold callFn at hs
  split at hs
  · rename_i f
    exact ⟨f, vs ++ us, rfl, hS _ _ _ _ _ _ _ _ _ _ hl hb hs hI (ha.append hu) hF⟩
  · rename_i name
    split at hs
    · rename_i t r ds
      obtain ⟨f, h1, h2⟩ := bnd_eq hs
      have hv0 : ∃ v0, vs[0]? = some v0 := by
        have := ha.1
        exact ⟨vs[0]'(by simp at this; omega), by simp⟩
      obtain ⟨v0, hv0⟩ := hv0
      have hr := ha.2 0 v0 _ hv0 rfl
      cases hr with
      | ifc t v r hr =>
        have hm := hL.meth _ _ _ h1
        refine ⟨f, #[v] ++ vs.extract 1 vs.size, ?_, hS _ _ _ _ _ _ _ _ _ _ hl hb h2 hI ((Args.one hr).append ⟨?_, fun i x e hx he => ?_⟩) hF⟩
        · simp only [invoke, hv0, callMethod_run hm]
        · have := ha.1; simp at this ⊢; omega
        · refine ha.2 (i + 1) x e ?_ (by simpa using he)
          rw [Array.getElem?_extract] at hx
          split at hx
          · rw [Nat.add_comm]; exact hx
          · cases hx
    · cases hs
  · cases hs

/-- An operation, calls too. -/
theorem oper_wp (hL : Links P A) (hS : CallSim P S) {o : Oper} {x x' : AOp} {next : Act → World → Prop} {Q : Exit → Act → World → Prop} (hc : cOp P o.op = some x) (hx : x' = x ∨ x' = x.barred) (hs : opD A S bar T x' ρ h = some (d, h')) (he : EnvR φ w a ρ)
    (hl : h.length = T) (hb : bar < T) (hI : Inv φ w T (getO T h)) (hF : Fresh T φ (getO T h) (getO T h'))
    (hnext : ∀ v w' φ', Rep φ' w' v d → Ext T (getO T h) φ w (getO T h') φ' w' → Inv φ' w' T (getO T h') → next (a.put o.dst v) w') : o.wp P a w next Q := by
  by_cases hcall : (∃ f args b, x = .call f args b) ∨ ∃ r name args b, x = .inv r name args b
  · have hpure : isPure x = false := by rcases hcall with ⟨_, _, _, rfl⟩ | ⟨_, _, _, _, rfl⟩ <;> rfl
    have hnp := cOp_np hc hpure
    obtain ⟨dst, op, ty, pos, after, guard⟩ := o
    simp only at hnp hc
    rcases hcall with ⟨f, args, b, rfl⟩ | ⟨r, name, args, b, rfl⟩
    · have hx' : ∃ b', x' = .call f args b' := by rcases hx with rfl | rfl; exact ⟨_, rfl⟩; exact ⟨_, rfl⟩
      obtain ⟨b', rfl⟩ := hx'
      simp only [opD] at hs
      obtain ⟨fd, h1, hs1⟩ := bnd_eq hs
      obtain ⟨ds, h2, hs2⟩ := bnd_eq hs1
      cases hnp with
      | call c f0 _ _ hcal hf hargs =>
        have hfr := opd_rep hf h1 he
        have har := Args.of_opds hargs h2 he
        unfold callDD at hs2
        split at hs2
        · rename_i g first cap
          generalize hv : a.eval f0 = v at hfr
          cases hfr with
          | fn _ fs cs _ _ l1 l2 r1 r2 =>
            obtain ⟨f', ws, q1, q2⟩ := callFn_sim hL hS (vs := fs ++ c.args.map a.eval) (us := cs) hl (by cases b'; exact Nat.le_of_lt hb; exact Nat.le_refl _) hI hF (Args.append ⟨l1, r1⟩ har) ⟨l2, r2⟩ hs2
            refine q2.upon ?_ hnext
            simp only [execOp, resolve, hcal, Sem.run_bind, hv, Deferred.ofValue, Sem.run_pure, Result.andThen_ok]
            exact q1
        · cases hs2
    · have hx' : ∃ b', x' = .inv r name args b' := by rcases hx with rfl | rfl; exact ⟨_, rfl⟩; exact ⟨_, rfl⟩
      obtain ⟨b', rfl⟩ := hx'
      simp only [opD] at hs
      obtain ⟨rd, h1, hs1⟩ := bnd_eq hs
      obtain ⟨ds, h2, hs2⟩ := bnd_eq hs1
      cases hnp with
      | inv c r0 _ _ _ hcal hr hargs =>
        have hrr := opd_rep hr h1 he
        have har := Args.of_opds hargs h2 he
        unfold invDD at hs2
        split at hs2
        · rename_i t e
          obtain ⟨f, h3, hs3⟩ := bnd_eq hs2
          generalize hv : a.eval r0 = v at hrr
          cases hrr with
          | ifc _ v _ hv' =>
            have hm := hL.meth _ _ _ h3
            have hct := hS _ _ _ _ _ _ _ _ _ (#[v] ++ c.args.map a.eval) hl (by cases b'; exact Nat.le_of_lt hb; exact Nat.le_refl _) hs3 hI ((Args.one hv').append har) hF
            refine hct.upon ?_ hnext
            simp only [execOp, resolve, hcal, Sem.run_bind, hv, Sem.run_pure, Result.andThen_ok, invoke]
            have e0 : (#[Value.iface t v] ++ c.args.map a.eval)[0]? = some (.iface t v) := by rw [Array.getElem?_append_left (by simp)]; rfl
            have e1 : (#[Value.iface t v] ++ c.args.map a.eval).extract 1 (#[Value.iface t v] ++ c.args.map a.eval).size = c.args.map a.eval := by
              apply Array.ext'
              simp
              rw [List.take_of_length_le (by simp)]
            simp only [e0, e1, callMethod_run hm]
        · cases hs2
  · have hxx : x' = x := by
      rcases hx with rfl | rfl
      · rfl
      · cases x <;> first | rfl | (exact absurd (.inl ⟨_, _, _, rfl⟩) hcall) | (exact absurd (.inr ⟨_, _, _, _, rfl⟩) hcall)
    subst hxx
    have hst : step bar T x' ρ h = some (d, h') := by
      cases x' <;> first | exact hs | (exact absurd (.inl ⟨_, _, _, rfl⟩) hcall) | (exact absurd (.inr ⟨_, _, _, _, rfl⟩) hcall)
    obtain ⟨v, w', φ', g1, g2, g3, g4, g5⟩ := op_sim hc hst he hI hl hF
    unfold Oper.wp
    rcases g1 with g1 | ⟨g1, rfl⟩
    · rw [g1, Oper.upon_value]; exact hnext v w' φ' g2 g3 g4
    · rw [g1, Oper.upon_skip]; exact hnext undef w' φ' g2 g3 g4
end
end AM
/- A region that keeps the text's order. -/
namespace AM
open Go

/-- One operation of a region and what it was translated to. -/
def OperOk (P : Program) (ops : Array Oper) (o : Oper) (x : AOper) : Prop :=
  x.dst = o.dst ∧ (∃ y, (cOp P o.op = some y ∧ (x.op = y ∨ x.op = y.barred)) ∨ ∃ s, x.op = .bad s) ∧
    ((o.guard = none ∧ x.guard = none) ∨ ∃ j b t, o.guard = some (j, b) ∧ (ops[j]?).bind (·.dst) = some t ∧ x.guard = some (t, b))

def OpersOk (P : Program) (ops : Array Oper) (os : List AOper) : Prop := os.length = ops.size ∧ ∀ (i : Nat) (o : Oper) (x : AOper), ops[i]? = some o → os[i]? = some x → OperOk P ops o x

/-- Where what is written lies. -/
def DstOk (n : Nat) (ops : Array Oper) : Prop := ∀ (i : Nat) (o : Oper) (t : Nat), ops[i]? = some o → o.dst = some t → t < n

section
variable {P : Program} {A : Prog} {S : Mch} {φ : Refs} {w : World} {a : Act} {ρ ρ' : Env} {bar T : Nat} {h h' : Heap} {d : D} {ops : Array Oper} {os : List AOper}

theorem EnvR.put {dst : Option Nat} {v : Value} (he : EnvR φ w a ρ) (hr : Rep φ w v d) (hd : ∀ t, dst = some t → t < a.tmps.size) : EnvR φ w (a.put dst v) (putE ρ dst d) := by
  cases dst with
  | none => exact he
  | some t =>
    intro u e hu
    simp only [putE, lk] at hu
    by_cases hq : t = u
    · subst hq
      simp only [beq_self_eq_true, brk_true, Option.some.injEq] at hu
      subst hu
      exact ⟨v, by simp [Act.put, hd t rfl], hr⟩
    · have : (t == u) = false := by simpa using hq
      simp only [this, brk_false] at hu
      obtain ⟨x, h1, h2⟩ := he u e hu
      exact ⟨x, by simp [Act.put, Array.getElem?_setIfInBounds_ne hq, h1], h2⟩

theorem put_size (a : Act) (dst : Option Nat) (v : Value) : (a.put dst v).tmps.size = a.tmps.size := by cases dst <;> simp [Act.put]
theorem put_defers (a : Act) (dst : Option Nat) (v : Value) : (a.put dst v).defers = a.defers := by cases dst <;> rfl

theorem wanted_eq {o : Oper} {x : AOper} {b : Bool} (ho : OperOk P ops o x) (he : EnvR φ w a ρ) (hw : wanted ρ x.guard = some b) : Region.wanted o (yielded ops a.tmps) = b := by
  rcases ho.2.2 with ⟨h1, h2⟩ | ⟨j, c, t, h1, h2, h3⟩
  · rw [h2] at hw
    simp only [wanted, Option.some.injEq] at hw
    simp [Region.wanted, h1, hw]
  · rw [h3] at hw
    simp only [wanted] at hw
    obtain ⟨g, g1, g2⟩ := bnd_eq hw
    simp only [Option.some.injEq] at g2; subst g2
    obtain ⟨v, e1, e2⟩ := he t g g1
    have hy : yielded ops a.tmps j = match v with
      | .bool b => some b
      | _ => none := by simp only [yielded, h2, Option.bind_some, e1]; cases v <;> rfl
    simp only [Region.wanted, h1, hy]
    cases e2 <;> simp [guardB, undef]
    case bool b => cases b <;> cases c <;> rfl

theorem wpOps_text (hL : Links P A) (hS : CallSim P S) (hK : Keeps S) (hok : OpersOk P ops os) (hb : bar < T) {Q : Exit → Act → World → Prop} {n : Nat} (hd : DstOk n ops) : ∀ (m k : Nat) (ρ : Env) (h : Heap) (φ : Refs) (w : World) (a : Act), k + m = ops.size →
    opsD A S bar T (os.drop k) ρ h = some (ρ', h') → EnvR φ w a ρ → h.length = T → Inv φ w T (getO T h) → Fresh T φ (getO T h) (getO T h') → n ≤ a.tmps.size →
    (∀ a' w' φ', EnvR φ' w' a' ρ' → Ext T (getO T h) φ w (getO T h') φ' w' → Inv φ' w' T (getO T h') → a'.defers = a.defers → a'.tmps.size = a.tmps.size → Q .normal a' w') →
    wpOps P ops Q (List.range' k m) a w
  | 0, k, ρ, h, φ, w, a, hk, hs, he, hl, hI, hF, hn, hQ => by
    have hnil : os.drop k = [] := List.drop_of_length_le (by have := hok.1; omega)
    rw [hnil] at hs
    simp only [opsD, Option.some.injEq, Prod.mk.injEq] at hs
    obtain ⟨rfl, rfl⟩ := hs
    exact hQ a w φ he (Ext.refl _ _ _ _) hI rfl rfl
  | m + 1, k, ρ, h, φ, w, a, hk, hs, he, hl, hI, hF, hn, hQ => by
    have hlt : k < os.length := by have := hok.1; omega
    have hlt2 : k < ops.size := by omega
    rw [List.drop_eq_getElem_cons hlt] at hs
    simp only [opsD] at hs
    have ho : ops[k]? = some ops[k] := Array.getElem?_eq_getElem hlt2
    have hx := hok.2 k _ _ ho (List.getElem?_eq_getElem hlt)
    obtain ⟨b, hw, hs1⟩ := bnd_eq hs
    have hwant := wanted_eq hx he hw
    simp only [List.range'_succ, wpOps, ho, hwant]
    have hdst : ∀ t, ops[k].dst = some t → t < a.tmps.size := fun t ht => Nat.lt_of_lt_of_le (hd k _ t ho ht) hn
    have hnext : ∀ v w' φ' d1 h1, opsD A S bar T (os.drop (k + 1)) (putE ρ os[k].dst d1) h1 = some (ρ', h') → h1.length = T → Keep bar T h1 h' → Rep φ' w' v d1 → Ext T (getO T h) φ w (getO T h1) φ' w' → Inv φ' w' T (getO T h1) →
        wpOps P ops Q (List.range' (k + 1) m) (a.put ops[k].dst v) w' := by
      intro v w' φ' d1 h1 hs2 hl1 hk1 hr hext hinv
      refine wpOps_text hL hS hK hok hb hd m (k + 1) _ h1 φ' w' _ (by omega) hs2 ?_ hl1 hinv (hF.right hext) (by rw [put_size]; exact hn) (fun a' w'' φ'' e1 e2 e3 e4 e5 => ?_)
      · rw [hx.1]; exact (he.ext hext).put hr hdst
      · exact hQ a' w'' φ'' e1 (hext.trans (fun l i r h => (hinv.bnd l i r h).1) (fun l i r h => (e3.bnd l i r h).1) e2) e3 (by rw [e4, put_defers]) (by rw [e5, put_size])
    rcases brk_eq hs1 with ⟨rfl, hs2⟩ | ⟨rfl, hs2⟩
    · obtain ⟨p, hop, hs3⟩ := bnd_eq hs2
      obtain ⟨d1, h1⟩ := p
      have hk1 := opD_keep hK hl hb hop
      have hk2 := opsD_keep hK hk1.len hb hs3
      rw [if_pos rfl]
      refine .inl ?_
      rcases hx.2.1 with ⟨y, ⟨hc, hy⟩ | ⟨s, hbad⟩⟩
      · exact oper_wp hL hS hc hy hop he hl hb hI (hF.left fun l i _ => hk2.grow l i) (fun v w' φ' e1 e2 e3 => hnext v w' φ' d1 h1 hs3 hk1.len hk2 e1 e2 e3)
      · rw [hbad] at hop; simp [opD, step] at hop
    · have hk2 := opsD_keep hK hl hb hs2
      simp only [Bool.false_eq_true, if_false]
      exact hnext undef w φ .undef h hs2 hl hk2 .undef (Ext.refl _ _ _ _) hI
end
end AM
/- A region that draws its order: what is ahead of what, the text's run step by step, and the relation of memories when operations change places. -/
namespace AM
open Go

/-! ### What is ahead of what -/
theorem after_bit (g : Nat → Nat) (i : Nat) : ∀ (es : List Edge) (s : Nat), (es.foldl (fun s e => if Region.binds .any e then s ||| 2 ^ e.on ||| g e.on else s) s).testBit i = true →
    s.testBit i = true ∨ ∃ e ∈ es, Region.binds .any e = true ∧ (e.on = i ∨ (g e.on).testBit i = true)
  | [], s, h => .inl h
  | e :: es, s, h => by
    simp only [List.foldl_cons] at h
    rcases after_bit g i es _ h with h1 | ⟨e', h1, h2⟩
    · by_cases hb : Region.binds .any e = true
      · rw [if_pos hb, Nat.testBit_or, Nat.testBit_or, Nat.testBit_two_pow] at h1
        simp only [Bool.or_eq_true, decide_eq_true_eq] at h1
        rcases h1 with (h1 | h1) | h1
        · exact .inl h1
        · exact .inr ⟨e, by simp, hb, .inl h1⟩
        · exact .inr ⟨e, by simp, hb, .inr h1⟩
      · rw [if_neg hb] at h1; exact .inl h1
    · exact .inr ⟨e', by simp [h1], h2⟩

theorem before_list : ∀ (l : List Oper) (acc : Array Nat), ∃ r, l.foldl (fun acc o => acc.push (o.after.foldl (fun s e => if Region.binds .any e then s ||| 2 ^ e.on ||| acc.getD e.on 0 else s) 0)) acc = r ∧ r.size = acc.size + l.length ∧
    (∀ k, k < acc.size → r.getD k 0 = acc.getD k 0) ∧ ∀ (m : Nat) (o : Oper) (i : Nat), l[m]? = some o → (r.getD (acc.size + m) 0).testBit i = true → ∃ e ∈ o.after, Region.binds .any e = true ∧ (e.on = i ∨ (e.on < acc.size + m ∧ (r.getD e.on 0).testBit i = true))
  | [], acc => ⟨acc, rfl, by simp, fun _ _ => rfl, by simp⟩
  | o :: l, acc => by
    obtain ⟨r, h1, h2, h3, h4⟩ := before_list l (acc.push (o.after.foldl (fun s e => if Region.binds .any e then s ||| 2 ^ e.on ||| acc.getD e.on 0 else s) 0))
    rw [Array.size_push] at h2 h3 h4
    have hold : ∀ k, k < acc.size → r.getD k 0 = acc.getD k 0 := by
      intro k hk
      rw [h3 k (by omega)]
      simp [Array.getElem?_push, Nat.ne_of_lt hk]
    refine ⟨r, h1, by simp; omega, hold, fun m o' i ho hb => ?_⟩
    cases m with
    | zero =>
      simp at ho; subst ho
      rw [Nat.add_zero, h3 _ (by omega)] at hb
      simp only [Array.getD_eq_getD_getElem?, Array.getElem?_push_size, Option.getD_some] at hb
      rw [← Array.foldl_toList] at hb
      rcases after_bit (fun k => acc[k]?.getD 0) i _ 0 hb with h | ⟨e, g1, g2, g3⟩
      · simp at h
      · refine ⟨e, by simpa using g1, g2, ?_⟩
        rcases g3 with g3 | g3
        · exact .inl g3
        · refine .inr ?_
          rcases Nat.lt_or_ge e.on acc.size with hk | hk
          · refine ⟨by omega, ?_⟩
            rw [hold _ hk, Array.getD_eq_getD_getElem?]; exact g3
          · rw [Array.getElem?_eq_none hk] at g3; simp at g3
    | succ m =>
      have := h4 m o' i (by simpa using ho) (by rw [show acc.size + 1 + m = acc.size + (m + 1) by omega]; exact hb)
      rw [show acc.size + 1 + m = acc.size + (m + 1) by omega] at this
      exact this

theorem before_bit {ops : Array Oper} {j i : Nat} {o : Oper} (ho : ops[j]? = some o) (hb : ((Region.before ops).getD j 0).testBit i = true) :
    ∃ e ∈ o.after, Region.binds .any e = true ∧ (e.on = i ∨ (e.on < j ∧ ((Region.before ops).getD e.on 0).testBit i = true)) := by
  obtain ⟨r, h1, _, _, h4⟩ := before_list ops.toList #[]
  have hr : Region.before ops = r := by rw [← h1, Region.before, ← Array.foldl_toList]
  rw [hr] at hb ⊢
  have := h4 j o i (by simpa using ho) (by simpa using hb)
  simpa using this

/-- What is listed holds what it hangs on. -/
def Closed (ops : Array Oper) (L : Nat → Prop) : Prop := ∀ (i : Nat) (o : Oper), ops[i]? = some o → L i → ∀ e ∈ o.after, Region.binds .any e = true → L e.on

theorem Closed.bit {ops : Array Oper} {L : Nat → Prop} (hc : Closed ops L) {i : Nat} : ∀ (j : Nat) (o : Oper), ops[j]? = some o → (∀ e ∈ o.after, Region.binds .any e = true → L e.on) → ((Region.before ops).getD j 0).testBit i = true → L i := by
  intro j
  induction j using Nat.strongRecOn with
  | _ j ih =>
    intro o ho hL hb
    obtain ⟨e, h1, h2, h3⟩ := before_bit ho hb
    rcases h3 with rfl | ⟨h3, h4⟩
    · exact hL e h1 h2
    · have hle := hL e h1 h2
      cases hq : ops[e.on]? with
      | none =>
        have : j < ops.size := (Array.getElem?_eq_some_iff.1 ho).1
        rw [Array.getElem?_eq_none_iff] at hq; omega
      | some o' => exact ih e.on h3 o' hq (hc e.on o' hq hle) h4

/-! ### The text's run, step by step -/
structure Tr (A : Prog) (S : Mch) (bar T : Nat) (os : List AOper) (ρ0 : Env) (h0 : Heap) (ρ' : Env) (h' : Heap) (ρs : Nat → Env) (hs : Nat → Heap) (ds : Nat → D) : Prop where
  e0 : ρs 0 = ρ0
  h0 : hs 0 = h0
  eN : ρs os.length = ρ'
  hN : hs os.length = h'
  step : ∀ (k : Nat) (x : AOper), os[k]? = some x → ∃ b, wanted (ρs k) x.guard = some b ∧ ρs (k + 1) = putE (ρs k) x.dst (ds k) ∧
    ((b = true ∧ opD A S bar T x.op (ρs k) (hs k) = some (ds k, hs (k + 1))) ∨ (b = false ∧ ds k = .undef ∧ hs (k + 1) = hs k))

theorem tr_exists {A : Prog} {S : Mch} {bar T : Nat} : ∀ {os : List AOper} {ρ ρ' : Env} {h h' : Heap}, opsD A S bar T os ρ h = some (ρ', h') → ∃ ρs hs ds, Tr A S bar T os ρ h ρ' h' ρs hs ds
  | [], ρ, ρ', h, h', hh => by
    simp only [opsD, Option.some.injEq, Prod.mk.injEq] at hh
    obtain ⟨rfl, rfl⟩ := hh
    exact ⟨fun _ => ρ, fun _ => h, fun _ => .undef, rfl, rfl, rfl, rfl, by simp⟩
  | x :: os, ρ, ρ', h, h', hh => by
    simp only [opsD] at hh
    obtain ⟨b, h1, h2⟩ := bnd_eq hh
    have key : ∀ (d : D) (h1' : Heap), opsD A S bar T os (putE ρ x.dst d) h1' = some (ρ', h') → ((b = true ∧ opD A S bar T x.op ρ h = some (d, h1')) ∨ (b = false ∧ d = .undef ∧ h1' = h)) →
        ∃ ρs hs ds, Tr A S bar T (x :: os) ρ h ρ' h' ρs hs ds := by
      intro d h1' hr hst
      obtain ⟨ρs, hs, ds, t⟩ := tr_exists hr
      refine ⟨fun | 0 => ρ | k + 1 => ρs k, fun | 0 => h | k + 1 => hs k, fun | 0 => d | k + 1 => ds k, rfl, rfl, t.eN, t.hN, fun k y hy => ?_⟩
      cases k with
      | zero =>
        simp at hy; subst hy
        refine ⟨b, h1, t.e0, ?_⟩
        show (b = true ∧ opD A S bar T x.op ρ h = some (d, hs 0)) ∨ (b = false ∧ d = .undef ∧ hs 0 = h)
        rw [t.h0]; exact hst
      | succ k => exact t.step k y (by simpa using hy)
    rcases brk_eq h2 with ⟨rfl, h3⟩ | ⟨rfl, h3⟩
    · obtain ⟨p, h4, h5⟩ := bnd_eq h3
      exact key p.1 p.2 h5 (.inl ⟨rfl, h4⟩)
    · exact key .undef h h3 (.inr ⟨rfl, rfl, rfl⟩)

/-! ### Operations that change nothing -/
def Agree (C C' : Cont) : Prop := ∀ l i o, C l i = some o → C' l i = some o
theorem Agree.refl (C : Cont) : Agree C C := fun _ _ _ h => h
theorem Agree.trans {C C1 C2 : Cont} (a : Agree C C1) (b : Agree C1 C2) : Agree C C2 := fun l i o h => b l i o (a l i o h)
theorem Agree.live {C C' : Cont} (a : Agree C C') {l i : Nat} (h : Live C l i) : Live C' l i := let ⟨o, h1, h2⟩ := h; ⟨o, a l i o h1, h2⟩

section
variable {A : Prog} {S : Mch} {bar T : Nat} {h h' : Heap} {d : D} {ρ : Env}

theorem newO_agree {l : Nat} {o : Obj} {mk : Nat → D} (hl : h.length = T) (hs : newO T h l o mk = some (d, h')) : Agree (getO T h) (getO T h') := by
  obtain ⟨i, _, g1, g2, g3, g4⟩ := newO_eq hl hs
  intro l' i' o' ho
  rw [g4, if_neg, ho]
  rintro ⟨rfl, rfl⟩
  rw [g3] at ho; cases ho

theorem step_same {o : AOp} (ho : o.act ≠ 2) (ho3 : o.act ≠ 3) (hs : step bar T o ρ h = some (d, h')) : h' = h := by
  cases o <;> first | (exact absurd rfl ho) | (exact absurd rfl ho3) | skip
  all_goals simp only [step] at hs
  all_goals first
    | (cases hs; done)
    | (revert hs
       repeat refine bsame fun _ => ?_
       intro hs
       exact (some_pair hs).2.symm)

theorem opD_agree (hK : Keeps S) {o : AOp} (ho : o.act ≠ 2) (hl : h.length = T) (hs : opD A S bar T o ρ h = some (d, h')) : Agree (getO T h) (getO T h') := by
  by_cases h3 : o.act = 3
  · cases o <;> first | (cases h3; done) | skip
    all_goals simp only [opD, step] at hs
    case alloc => exact newO_agree hl hs
    case mkm => exact newO_agree hl hs
    case box =>
      obtain ⟨_, _, h1⟩ := bnd_eq hs
      exact newO_agree hl (brk_none h1).2
    case bsl =>
      obtain ⟨_, _, h1⟩ := bnd_eq hs
      exact newO_agree hl (brk_none h1).2
    case mksl =>
      obtain ⟨_, _, h1⟩ := bnd_eq hs
      obtain ⟨_, _, h2⟩ := bnd_eq h1
      obtain ⟨_, _, h3⟩ := bnd_eq h2
      obtain ⟨_, _, h4⟩ := bnd_eq h3
      unfold mkslD at h4
      rcases brk_eq (brk_none h4).2 with ⟨_, h6⟩ | ⟨_, h6⟩
      · exact newO_agree hl h6
      · exact newO_agree hl (brk_none h6).2
    case call f args b => cases b <;> cases h3
    case inv x name args b => cases b <;> cases h3
  · have bar_agree : ∀ {h'}, Keep T T h h' → Agree (getO T h) (getO T h') := fun k l i o hg => by rw [k.low l i (getO_lt hl hg)]; exact hg
    cases o
    case call f args b =>
      cases b
      · exact absurd rfl ho
      · simp only [opD] at hs
        obtain ⟨fd, _, h1⟩ := bnd_eq hs
        obtain ⟨ds, _, h2⟩ := bnd_eq h1
        unfold callDD at h2
        split at h2
        · exact bar_agree (callFn_keep (bar := T) hK hl (Nat.le_refl _) h2)
        · cases h2
    case inv x name args b =>
      cases b
      · exact absurd rfl ho
      · simp only [opD] at hs
        obtain ⟨fd, _, h1⟩ := bnd_eq hs
        obtain ⟨ds, _, h2⟩ := bnd_eq h1
        unfold invDD at h2
        split at h2
        · obtain ⟨f, _, h3⟩ := bnd_eq h2
          exact bar_agree (hK.call T _ _ _ _ _ _ hl (Nat.le_refl _) h3)
        · cases h2
    all_goals (simp only [opD] at hs; rw [step_same ho h3 hs]; exact Agree.refl _)
end
end AM
/- A region that draws its order: whatever order is drawn, it comes to what the text's order comes to. -/
namespace AM
open Go

section
variable {T : Nat} {φ φ' φ0 : Refs} {w w' w0 : World} {C C' C0 Ci Ci1 : Cont}

theorem inv_sub (hI : Inv φ w T C) (ha : Agree Ci C) : Inv φ w T Ci where
  bnd := hI.bnd
  lev := hI.lev
  inj l i r i' r' g1 g2 v1 v2 hne := hI.inj l i r i' r' g1 g2 (ha.live v1) (ha.live v2) hne
  obj l i r o h hc := hI.obj l i r o h (ha l i o hc)

theorem inv_eff (hI : Inv φ' w' T Ci1) (ha : Agree Ci1 C') (hd : ∀ l i r, φ' l i = some r → (C' l i).isSome → (Ci1 l i).isSome) : Inv φ' w' T C' := by
  have hback : ∀ l i r o, φ' l i = some r → C' l i = some o → Ci1 l i = some o := by
    intro l i r o h hc
    cases hq : Ci1 l i with
    | none => have := hd l i r h (by rw [hc]; rfl); rw [hq] at this; cases this
    | some o' => have := ha l i o' hq; rw [hc] at this; exact this.symm
  exact { bnd := hI.bnd, lev := hI.lev
          inj := fun l i r i' r' g1 g2 v1 v2 hne => hI.inj l i r i' r' g1 g2 (let ⟨o, h1, h2⟩ := v1; ⟨o, hback l i r o g1 h1, h2⟩) (let ⟨o, h1, h2⟩ := v2; ⟨o, hback l i' r' o g2 h1, h2⟩) hne
          obj := fun l i r o h hc => hI.obj l i r o h (hback l i r o h hc) }

theorem inv_up (hI : Inv φ w T C) (he : Ext T Ci φ w Ci1 φ' w') (hI' : Inv φ' w' T Ci1) (h1 : Agree Ci C) (h2 : Agree Ci1 C) : Inv φ' w' T C := by
  have old : ∀ l i r, φ' l i = some r → Ci1 l i = none → φ l i = some r ∧ Ci l i = none := by
    intro l i r h hn
    have hlt := (hI'.bnd l i r h).1
    rcases he.new l i r h with g | ⟨_, _, g, _⟩
    · refine ⟨g, ?_⟩
      cases hq : Ci l i with
      | none => rfl
      | some o => have := he.grow l i hlt (by rw [hq]; rfl); rw [hn] at this; cases this
    · rw [hn] at g; cases g
  have apart : ∀ l i r, φ l i = some r → Ci l i = none → Live C l i → ∀ l' i' r', φ' l' i' = some r' → ¬ (l' = l ∧ i' = i) → Live C l' i' → r'.blk ≠ r.blk := by
    intro l i r h hn hl l' i' r' h' hne hl'
    rcases he.new l' i' r' h' with g | ⟨_, _, _, g | ⟨i2, r2, g1, g2, g3⟩⟩
    · exact other_blk hI h hl g hl' hne
    · have := (hI.bnd l i r h).2; omega
    · rw [← g2]
      refine other_blk hI h hl g1 (h1.live g3) ?_
      rintro ⟨rfl, rfl⟩
      obtain ⟨o, q, _⟩ := g3
      rw [hn] at q; cases q
  refine ⟨hI'.bnd, hI'.lev, fun l i r i' r' g1 g2 v1 v2 hne => ?_, fun l i r o h hc => ?_⟩
  · cases q1 : Ci1 l i with
    | none =>
      obtain ⟨k1, k2⟩ := old l i r g1 q1
      exact (apart l i r k1 k2 v1 l i' r' g2 (fun e => hne e.2.symm) v2).symm
    | some o =>
      cases q2 : Ci1 l i' with
      | none =>
        obtain ⟨k1, k2⟩ := old l i' r' g2 q2
        exact apart l i' r' k1 k2 v2 l i r g1 (fun e => hne e.2) v1
      | some o' =>
        refine hI'.inj l i r i' r' g1 g2 ?_ ?_ hne
        · obtain ⟨o2, e1, e2⟩ := v1
          have := h2 l i o q1; rw [e1] at this; cases this
          exact ⟨_, q1, e2⟩
        · obtain ⟨o2, e1, e2⟩ := v2
          have := h2 l i' o' q2; rw [e1] at this; cases this
          exact ⟨_, q2, e2⟩
  · cases q1 : Ci1 l i with
    | some o' =>
      have := h2 l i o' q1; rw [hc] at this; cases this
      exact hI'.obj l i r o h q1
    | none =>
      obtain ⟨k1, k2⟩ := old l i r h q1
      by_cases hd : o = .dead
      · subst hd; trivial
      · refine (hI.obj l i r o k1 hc).ext he (he.keep _ (hI.bnd l i r k1).2 fun l' i' r' h' hb hl => ?_)
        have hne : ¬ (l' = l ∧ i' = i) := by
          rintro ⟨rfl, rfl⟩
          obtain ⟨o', e1, _⟩ := hl
          rw [k2] at e1; cases e1
        exact other_blk hI k1 ⟨o, hc, hd⟩ h' (h1.live hl) hne hb

theorem ext_up (hb' : ∀ l i r, φ' l i = some r → l < T) (e1 : Ext T C0 φ0 w0 C φ w) (e2 : Ext T Ci φ w Ci1 φ' w') (ha : Agree Ci C) (g0 : ∀ l i, l < T → (C0 l i).isSome → (Ci l i).isSome) (g1 : ∀ l i, (Ci1 l i).isSome → (C' l i).isSome)
    (g2 : ∀ l i, (C l i).isSome → (C' l i).isSome) (hlive : ∀ l i r, φ l i = some r → Live C' l i → Live C l i) : Ext T C0 φ0 w0 C' φ' w' where
  os := e2.os.trans e1.os
  tape := e2.tape.trans e1.tape
  output := e2.output.trans e1.output
  size := Nat.le_trans e1.size e2.size
  ref l i r h := e2.ref l i r (e1.ref l i r h)
  keep b hlt hn := by
    refine (e2.keep b (Nat.lt_of_lt_of_le hlt e1.size) fun l i r hr he hl => ?_).trans (e1.keep b hlt hn)
    rcases e1.new l i r hr with h1 | ⟨_, _, _, h1 | ⟨i', r', h1, h2, h3⟩⟩
    · exact hn l i r h1 he (e1.live l i r h1 (ha.live hl))
    · omega
    · exact hn l i' r' h1 (h2.trans he) h3
  new l i r h := by
    rcases e2.new l i r h with h1 | ⟨h0, hn, hc, h1⟩
    · rcases e1.new l i r h1 with h2 | ⟨h0, hn, hc, h2⟩
      · exact .inl h2
      · exact .inr ⟨h0, hn, g2 l i hc, h2⟩
    · refine .inr ⟨?_, ?_, g1 l i hc, ?_⟩
      · cases hq : φ0 l i with
        | none => rfl
        | some q => rw [e1.ref l i q hq] at h0; cases h0
      · cases hq : C0 l i with
        | none => rfl
        | some q => have := g0 l i (hb' l i r h) (by rw [hq]; rfl); rw [hn] at this; cases this
      · rcases h1 with h1 | ⟨i', r', h1, h2, h3⟩
        · exact .inl (Nat.le_trans e1.size h1)
        · rcases e1.new l i' r' h1 with h4 | ⟨_, _, _, h4 | ⟨i'', r'', h4, h5, h6⟩⟩
          · exact .inr ⟨i', r', h4, h2, e1.live l i' r' h4 (ha.live h3)⟩
          · exact .inl (by omega)
          · exact .inr ⟨i'', r'', h4, h5.trans h2, h6⟩
  live l i r h hl := e1.live l i r h (hlive l i r (e1.ref l i r h) hl)
  grow l i hl h := by
    have := e1.grow l i hl h
    exact g2 l i this
end
end AM
/- What holds on the way through a region that draws its order. -/
namespace AM
open Go

theorem next_eff (os : List AOper) : ∀ (n k : Nat), k + n = os.length → ∃ τ, k ≤ τ ∧ τ ≤ os.length ∧ (∀ m x, k ≤ m → m < τ → os[m]? = some x → x.op.act ≠ 2) ∧ ∀ x, os[τ]? = some x → x.op.act = 2
  | 0, k, hk => ⟨k, Nat.le_refl _, by omega, fun m x h1 h2 _ => by omega, fun x hx => by rw [List.getElem?_eq_none (by omega)] at hx; cases hx⟩
  | n + 1, k, hk => by
    have hlt : k < os.length := by omega
    by_cases h : os[k].op.act = 2
    · exact ⟨k, Nat.le_refl _, by omega, fun m x h1 h2 _ => by omega, fun x hx => by rw [List.getElem?_eq_getElem hlt] at hx; cases hx; exact h⟩
    · obtain ⟨τ, h1, h2, h3, h4⟩ := next_eff os n (k + 1) (by omega)
      refine ⟨τ, by omega, h2, fun m x g1 g2 g3 => ?_, h4⟩
      by_cases e : m = k
      · subst e; rw [List.getElem?_eq_getElem hlt] at g3; cases g3; exact h
      · exact h3 m x (by omega) g2 g3

theorem act_zero {x : AOp} (h : x.act = 0) : isPure x = true ∨ ∃ s, x = .bad s := by
  cases x <;> first | exact .inl rfl | exact .inr ⟨_, rfl⟩ | (cases h; done) | skip
  case call f a b => cases b <;> cases h
  case inv f n a b => cases b <;> cases h

/-- All that is fixed on the way. -/
structure Ctx (P : Program) (A : Prog) (S : Mch) (bar T n : Nat) (ops : Array Oper) (os : List AOper) (ρ0 : Env) (h0 : Heap) (ρ' : Env) (h' : Heap) (ρs : Nat → Env) (hs : Nat → Heap) (ds : Nat → D) : Prop where
  links : Links P A
  sim : CallSim P S
  keeps : Keeps S
  ok : OpersOk P ops os
  dst : DstOk n ops
  hbar : bar < T
  tr : Tr A S bar T os ρ0 h0 ρ' h' ρs hs ds
  hlen : h0.length = T
  pairs : ∀ i j x y, i < j → os[i]? = some x → os[j]? = some y → pairOk (Region.before ops) x y i j = true
  back : ∀ (i : Nat) (o : Oper) (e : Edge), ops[i]? = some o → e ∈ o.after → Region.binds .any e = true → e.on < i

section
variable {P : Program} {A : Prog} {S : Mch} {bar T n : Nat} {ops : Array Oper} {os : List AOper} {ρ0 ρ' : Env} {h0 h' : Heap} {ρs : Nat → Env} {hs : Nat → Heap} {ds : Nat → D}

theorem Ctx.step_keep (c : Ctx P A S bar T n ops os ρ0 h0 ρ' h' ρs hs ds) {k : Nat} (hk : k < os.length) (hl : (hs k).length = T) : Keep bar T (hs k) (hs (k + 1)) := by
  obtain ⟨b, _, _, h1⟩ := c.tr.step k _ (List.getElem?_eq_getElem hk)
  rcases h1 with ⟨_, h1⟩ | ⟨_, _, h1⟩
  · exact opD_keep c.keeps hl c.hbar h1
  · rw [h1]; exact .refl hl

theorem Ctx.lenk (c : Ctx P A S bar T n ops os ρ0 h0 ρ' h' ρs hs ds) : ∀ k, k ≤ os.length → (hs k).length = T
  | 0, _ => by rw [c.tr.h0]; exact c.hlen
  | k + 1, hk => (c.step_keep (by omega) (c.lenk k (by omega))).len

theorem Ctx.keep (c : Ctx P A S bar T n ops os ρ0 h0 ρ' h' ρs hs ds) (j : Nat) : ∀ m, j + m ≤ os.length → Keep bar T (hs j) (hs (j + m))
  | 0, hk => .refl (c.lenk j (by omega))
  | m + 1, hk => (c.keep j m (by omega)).trans (c.step_keep (by omega) (c.lenk _ (by omega)))

theorem Ctx.grow (c : Ctx P A S bar T n ops os ρ0 h0 ρ' h' ρs hs ds) {j k : Nat} (h1 : j ≤ k) (h2 : k ≤ os.length) {l i : Nat} (h : (getO T (hs j) l i).isSome) : (getO T (hs k) l i).isSome := by
  have := (c.keep j (k - j) (by omega)).grow l i h
  rwa [show j + (k - j) = k by omega] at this

theorem Ctx.agree1 (c : Ctx P A S bar T n ops os ρ0 h0 ρ' h' ρs hs ds) {k : Nat} {x : AOper} (hx : os[k]? = some x) (ha : x.op.act ≠ 2) : Agree (getO T (hs k)) (getO T (hs (k + 1))) := by
  have hk := lt_of_at hx
  obtain ⟨b, _, _, h1⟩ := c.tr.step k _ hx
  rcases h1 with ⟨_, h1⟩ | ⟨_, _, h1⟩
  · exact opD_agree c.keeps ha (c.lenk k (by omega)) h1
  · rw [h1]; exact Agree.refl _

theorem Ctx.agree (c : Ctx P A S bar T n ops os ρ0 h0 ρ' h' ρs hs ds) (j : Nat) : ∀ m, j + m ≤ os.length → (∀ k x, j ≤ k → k < j + m → os[k]? = some x → x.op.act ≠ 2) → Agree (getO T (hs j)) (getO T (hs (j + m)))
  | 0, _, _ => Agree.refl _
  | m + 1, hk, ha => (c.agree j m (by omega) fun k x h1 h2 => ha k x h1 (by omega)).trans (c.agree1 (List.getElem?_eq_getElem (show j + m < os.length by omega)) (ha _ _ (by omega) (by omega) (List.getElem?_eq_getElem (by omega))))

/-- Where a slot's datum comes from. -/
theorem Ctx.at (c : Ctx P A S bar T n ops os ρ0 h0 ρ' h' ρs hs ds) (t : Nat) (d : D) : ∀ i, i ≤ os.length → AM.lk (ρs i) t = some d →
    (∃ j x, j < i ∧ os[j]? = some x ∧ x.dst = some t ∧ ds j = d ∧ ∀ j' x', j < j' → j' < i → os[j']? = some x' → x'.dst ≠ some t) ∨ ((∀ j x, j < i → os[j]? = some x → x.dst ≠ some t) ∧ AM.lk ρ0 t = some d)
  | 0, _, h => .inr ⟨fun j x hj => by omega, by rw [← c.tr.e0]; exact h⟩
  | i + 1, hi, h => by
    have hx := List.getElem?_eq_getElem (show i < os.length by omega)
    obtain ⟨b, _, h1, _⟩ := c.tr.step i _ hx
    rw [h1] at h
    have hrec : (os[i]'(by omega)).dst ≠ some t → AM.lk (ρs i) t = some d →
        (∃ j x, j < i + 1 ∧ os[j]? = some x ∧ x.dst = some t ∧ ds j = d ∧ ∀ j' x', j < j' → j' < i + 1 → os[j']? = some x' → x'.dst ≠ some t) ∨ ((∀ j x, j < i + 1 → os[j]? = some x → x.dst ≠ some t) ∧ AM.lk ρ0 t = some d) := fun hne hk => by
      rcases c.at t d i (by omega) hk with ⟨j, x, g1, g2, g3, g4, g5⟩ | ⟨g1, g2⟩
      · refine .inl ⟨j, x, by omega, g2, g3, g4, fun j' x' q1 q2 q3 => ?_⟩
        by_cases e : j' = i
        · subst e; rw [hx] at q3; cases q3; exact hne
        · exact g5 j' x' q1 (by omega) q3
      · refine .inr ⟨fun j x q1 q2 => ?_, g2⟩
        by_cases e : j = i
        · subst e; rw [hx] at q2; cases q2; exact hne
        · exact g1 j x (by omega) q2
    cases hd : (os[i]'(by omega)).dst with
    | none => rw [hd] at h; exact hrec (by rw [hd]; simp) h
    | some u =>
      rw [hd] at h
      simp only [putE, AM.lk] at h
      by_cases e : u = t
      · subst e
        simp only [beq_self_eq_true, brk_true, Option.some.injEq] at h
        exact .inl ⟨i, _, by omega, hx, hd, h, fun j' x' q1 q2 => by omega⟩
      · have : (u == t) = false := by simpa using e
        simp only [this, brk_false] at h
        exact hrec (by rw [hd]; simpa using e) h

/-- What holds when the operations of L have been carried out. -/
structure J (P : Program) (T : Nat) (ops : Array Oper) (os : List AOper) (ρ0 : Env) (hs : Nat → Heap) (ds : Nat → D) (φ0 : Refs) (w0 : World) (a0 : Act) (L : Nat → Prop) (a : Act) (w : World) (φ : Refs) (τ : Nat) : Prop where
  cl : Closed ops L
  lt : ∀ i, L i → i < os.length
  slot : ∀ j x t, os[j]? = some x → L j → x.dst = some t → (∀ j' x', os[j']? = some x' → L j' → x'.dst = some t → j' ≤ j) → ∃ v : Value, a.tmps[t]? = some v ∧ Rep φ w v (ds j)
  slot0 : ∀ t d, lk ρ0 t = some d → (∀ j x, os[j]? = some x → L j → x.dst ≠ some t) → ∃ v : Value, a.tmps[t]? = some v ∧ Rep φ w v d
  tauN : τ ≤ os.length
  tau : ∀ k x, k < τ → os[k]? = some x → x.op.act = 2 → L k
  tau' : ∀ x, os[τ]? = some x → x.op.act = 2 ∧ ¬ L τ
  ext : Ext T (getO T (hs 0)) φ0 w0 (getO T (hs τ)) φ w
  inv : Inv φ w T (getO T (hs τ))
  dom : ∀ l i r, φ l i = some r → φ0 l i = some r ∨ ∃ j, L j ∧ getO T (hs j) l i = none ∧ (getO T (hs (j + 1)) l i).isSome
  siz : a.tmps.size = a0.tmps.size
  dfr : a.defers = a0.defers

/-- Two operations that may not change places. -/
def Clash (x y : AOper) : Prop :=
  (x.op.act = 2 ∧ y.op.act ≠ 0) ∨ (y.op.act = 2 ∧ x.op.act ≠ 0) ∨ (∃ t, x.dst = some t ∧ (t ∈ y.us ∨ y.dst = some t)) ∨ ∃ t, y.dst = some t ∧ (t ∈ x.us ∨ x.dst = some t)

theorem Clash.symm {x y : AOper} (h : Clash x y) : Clash y x := by
  rcases h with h | h | h | h
  · exact .inr (.inl h)
  · exact .inl h
  · exact .inr (.inr (.inr h))
  · exact .inr (.inr (.inl h))

theorem pair_bit {bf : Array Nat} {x y : AOper} {i j : Nat} (h : pairOk bf x y i j = true) (hc : Clash x y) : (bf.getD j 0).testBit i = true := by
  unfold pairOk at h
  rw [Bool.or_eq_true] at h
  rcases h with h | h
  · exact h
  · exfalso
    simp only [Bool.and_eq_true, Bool.not_eq_true', Bool.and_eq_false_iff, beq_eq_false_iff_ne, bne_eq_false_iff_eq, ne_eq] at h
    obtain ⟨⟨⟨h1, h2⟩, h3⟩, h4⟩ := h
    rcases hc with ⟨c1, c2⟩ | ⟨c1, c2⟩ | ⟨t, c1, c2⟩ | ⟨t, c1, c2⟩
    · rcases h1 with h1 | h1
      · exact h1 c1
      · exact c2 h1
    · rcases h2 with h2 | h2
      · exact h2 c1
      · exact c2 h2
    · rw [c1] at h3
      simp at h3
      rcases c2 with c2 | c2
      · exact h3.1 c2
      · exact h3.2 c2
    · rcases c2 with c2 | c2
      · rw [c1] at h4; simp at h4; exact h4 c2
      · rw [c2] at h3; simp at h3; exact h3.2 c1

/-- What is ready: what it may not change places with is listed if ahead, and is not if behind. -/
theorem Ctx.ahead (c : Ctx P A S bar T n ops os ρ0 h0 ρ' h' ρs hs ds) {L : Nat → Prop} (hcl : Closed ops L) {i : Nat} {o : Oper} {x : AOper} (ho : ops[i]? = some o) (hx : os[i]? = some x) (hready : ∀ e ∈ o.after, Region.binds .any e = true → L e.on) (hn : ¬ L i)
    {k : Nat} {y : AOper} (hy : os[k]? = some y) (hc : Clash x y) : (k < i → L k) ∧ (i < k → ¬ L k) := by
  constructor
  · intro hk
    exact hcl.bit i o ho hready (pair_bit (c.pairs k i y x hk hy hx) hc.symm)
  · intro hk hL
    have hko : ops[k]? = some (ops[k]'(by have := lt_of_at hy; have := c.ok.1; omega)) := Array.getElem?_eq_getElem (by have := lt_of_at hy; have := c.ok.1; omega)
    exact hn (hcl.bit k _ hko (hcl k _ hko hL) (pair_bit (c.pairs i k x y hk hx hy) hc))
end
end AM
/- One operation of a region that draws its order; the whole region. -/
namespace AM
open Go

section
variable {P : Program} {A : Prog} {S : Mch} {bar T n : Nat} {ops : Array Oper} {os : List AOper} {ρ0 ρ' : Env} {h0 h' : Heap} {ρs : Nat → Env} {hs : Nat → Heap} {ds : Nat → D}
variable {φ0 φ : Refs} {w0 w : World} {a0 a : Act} {L : Nat → Prop} {τ : Nat}

theorem J.env (c : Ctx P A S bar T n ops os ρ0 h0 ρ' h' ρs hs ds) (j : J P T ops os ρ0 hs ds φ0 w0 a0 L a w φ τ) {i : Nat} {o : Oper} {x : AOper} (ho : ops[i]? = some o) (hx : os[i]? = some x) (hready : ∀ e ∈ o.after, Region.binds .any e = true → L e.on) (hn : ¬ L i) :
    EnvR φ w a (only x.us (ρs i)) := by
  intro t d h
  rw [lk_only] at h
  split at h
  · rename_i ht
    have hcl : ∀ {k y}, os[k]? = some y → y.dst = some t → (k < i → L k) ∧ (i < k → ¬ L k) := fun hy hd => c.ahead j.cl ho hx hready hn hy (.inr (.inr (.inr ⟨t, hd, .inl ht⟩)))
    have hbef : ∀ {k y}, os[k]? = some y → L k → y.dst = some t → k < i := by
      intro k y hy hL hd
      rcases Nat.lt_trichotomy k i with h | h | h
      · exact h
      · subst h; exact absurd hL hn
      · exact absurd hL ((hcl hy hd).2 h)
    rcases c.at t d i (Nat.le_of_lt (lt_of_at hx)) h with ⟨k, y, g1, g2, g3, g4, g5⟩ | ⟨g1, g2⟩
    · subst g4
      refine j.slot k y t g2 ((hcl g2 g3).1 g1) g3 fun k' y' q1 q2 q3 => ?_
      rcases Nat.lt_or_ge k k' with hk | hk
      · exact absurd q3 (g5 k' y' hk (hbef q1 q2 q3) q1)
      · exact hk
    · exact j.slot0 t d g2 fun k y q1 q2 q3 => g1 k y (hbef q1 q2 q3) q1 q3
  · cases h

/-- One more. -/
def With (L : Nat → Prop) (i : Nat) : Nat → Prop := fun k => L k ∨ k = i

theorem with_closed (hcl : Closed ops L) {i : Nat} {o : Oper} (ho : ops[i]? = some o) (hready : ∀ e ∈ o.after, Region.binds .any e = true → L e.on) : Closed ops (With L i) := by
  intro k o' hk hL e he hb
  rcases hL with hL | rfl
  · exact .inl (hcl k o' hk hL e he hb)
  · rw [ho] at hk; cases hk; exact .inl (hready e he hb)

/-- The slots after one more operation. -/
theorem J.slots (c : Ctx P A S bar T n ops os ρ0 h0 ρ' h' ρs hs ds) (j : J P T ops os ρ0 hs ds φ0 w0 a0 L a w φ τ) (hsz : n ≤ a0.tmps.size) {i : Nat} {o : Oper} {x : AOper} (ho : ops[i]? = some o) (hx : os[i]? = some x) (hready : ∀ e ∈ o.after, Region.binds .any e = true → L e.on) (hn : ¬ L i)
    {φ' : Refs} {w' : World} {v : Value} (hup : ∀ {v d}, Rep φ w v d → Rep φ' w' v d) (hv : Rep φ' w' v (ds i)) :
    (∀ k y t, os[k]? = some y → With L i k → y.dst = some t → (∀ k' y', os[k']? = some y' → With L i k' → y'.dst = some t → k' ≤ k) → ∃ u : Value, (a.put o.dst v).tmps[t]? = some u ∧ Rep φ' w' u (ds k)) ∧
    (∀ t d, lk ρ0 t = some d → (∀ k y, os[k]? = some y → With L i k → y.dst ≠ some t) → ∃ u : Value, (a.put o.dst v).tmps[t]? = some u ∧ Rep φ' w' u d) := by
  have hdst := (c.ok.2 i o x ho hx).1
  have hother : ∀ t u, o.dst ≠ some t → a.tmps[t]? = some u → (a.put o.dst v).tmps[t]? = some u := by
    intro t u hne hu
    cases hd : o.dst with
    | none => exact hu
    | some s =>
      have : s ≠ t := by rintro rfl; exact hne hd
      simp [Act.put, Array.getElem?_setIfInBounds_ne this, hu]
  refine ⟨fun k y t hy hL hd hmax => ?_, fun t d h0 hnone => ?_⟩
  · by_cases hki : k = i
    · subst hki
      rw [hx] at hy; cases hy
      rw [hdst] at hd
      have hlt : t < a.tmps.size := by rw [j.siz]; exact Nat.lt_of_lt_of_le (c.dst k o t ho hd) hsz
      exact ⟨v, by rw [hd]; simp [Act.put, hlt], hv⟩
    · have hLk : L k := hL.resolve_right hki
      have hne : o.dst ≠ some t := by
        intro he
        have hle := hmax i x hx (.inr rfl) (by rw [hdst]; exact he)
        exact (c.ahead j.cl ho hx hready hn hy (.inr (.inr (.inr ⟨t, hd, .inr (by rw [hdst]; exact he)⟩)))).2 (by omega) hLk
      obtain ⟨u, h1, h2⟩ := j.slot k y t hy hLk hd fun k' y' q1 q2 q3 => hmax k' y' q1 (.inl q2) q3
      exact ⟨u, hother t u hne h1, hup h2⟩
  · obtain ⟨u, h1, h2⟩ := j.slot0 t d h0 fun k y q1 q2 => hnone k y q1 (.inl q2)
    exact ⟨u, hother t u (by rw [← hdst]; exact hnone i x hx (.inr rfl)) h1, hup h2⟩

theorem draw_step (c : Ctx P A S bar T n ops os ρ0 h0 ρ' h' ρs hs ds) (hsz : n ≤ a0.tmps.size) (hF : Fresh T φ0 (getO T (hs 0)) (getO T (hs os.length))) (j : J P T ops os ρ0 hs ds φ0 w0 a0 L a w φ τ) {i : Nat} {o : Oper} {x : AOper} (ho : ops[i]? = some o) (hx : os[i]? = some x)
    (hready : ∀ e ∈ o.after, Region.binds .any e = true → L e.on) (hn : ¬ L i) {Q : Exit → Act → World → Prop} {K : Act → World → Prop}
    (hK : ∀ a' w' φ' τ', J P T ops os ρ0 hs ds φ0 w0 a0 (With L i) a' w' φ' τ' → K a' w') : wpOp P ops Q i K a w := by
  have hi := lt_of_at hx
  have henv := j.env c ho hx hready hn
  obtain ⟨b, hw, hρ, hst⟩ := c.tr.step i x hx
  have hokx := c.ok.2 i o x ho hx
  have hus : ∀ t ∈ x.us, lk (only x.us (ρs i)) t = lk (ρs i) t := fun t ht => by rw [lk_only, if_pos ht]
  have hw' : wanted (only x.us (ρs i)) x.guard = some b := by
    cases hg : x.guard with
    | none => rw [hg] at hw; exact hw
    | some g =>
      obtain ⟨t, gb⟩ := g
      rw [hg] at hw
      simp only [wanted] at hw ⊢
      rw [hus t (by simp [AOper.us, hg])]; exact hw
  have hwant := wanted_eq hokx henv hw'
  have hou : ∀ t ∈ x.op.us, lk (only x.us (ρs i)) t = lk (ρs i) t := fun t ht => hus t (by unfold AOper.us; split <;> simp [ht])
  have hlen : (hs i).length = T := c.lenk i (by omega)
  have hgrowN : ∀ {k l m}, k ≤ os.length → (getO T (hs k) l m).isSome → (getO T (hs os.length) l m).isSome := fun h1 h2 => c.grow h1 (Nat.le_refl _) h2
  -- nothing of the heap moves
  have still : x.op.act ≠ 2 → ∀ v, Rep φ w v (ds i) → K (a.put o.dst v) w := by
    intro ha v hv
    obtain ⟨s1, s2⟩ := j.slots c hsz ho hx hready hn (fun h => h) hv
    refine hK _ w φ τ ⟨with_closed j.cl ho hready, fun k hk => ?_, s1, s2, j.tauN, fun k y h1 h2 h3 => .inl (j.tau k y h1 h2 h3), fun y hy => ⟨(j.tau' y hy).1, ?_⟩, j.ext, j.inv, fun l m r h => ?_, by rw [put_size, j.siz], by rw [put_defers, j.dfr]⟩
    · rcases hk with hk | rfl
      · exact j.lt k hk
      · exact hi
    · rintro (h | h)
      · exact (j.tau' y hy).2 h
      · subst h; rw [hx] at hy; cases hy; exact ha (j.tau' x hx).1
    · rcases j.dom l m r h with h | ⟨k, h1, h2⟩
      · exact .inl h
      · exact .inr ⟨k, .inl h1, h2⟩
  have domNew : ∀ {φ' : Refs} {w' : World}, Ext T (getO T (hs i)) φ w (getO T (hs (i + 1))) φ' w' → ∀ l m r, φ' l m = some r → φ0 l m = some r ∨ ∃ k, With L i k ∧ getO T (hs k) l m = none ∧ (getO T (hs (k + 1)) l m).isSome := by
    intro φ' w' e l m r h
    rcases e.new l m r h with h1 | ⟨_, h2, h3, _⟩
    · rcases j.dom l m r h1 with h | ⟨k, g1, g2⟩
      · exact .inl h
      · exact .inr ⟨k, .inl g1, g2⟩
    · exact .inr ⟨i, .inr rfl, h2, h3⟩
  have hltL : ∀ k, With L i k → k < os.length := by
    rintro k (hk | rfl)
    · exact j.lt k hk
    · exact hi
  -- an operation that changes the heap
  have moves : x.op.act = 2 → ∀ v w' φ', Rep φ' w' v (ds i) → Ext T (getO T (hs i)) φ w (getO T (hs (i + 1))) φ' w' → Inv φ' w' T (getO T (hs (i + 1))) → K (a.put o.dst v) w' := by
    intro ha v w' φ' hv he hinv
    have hτ : τ = i := by
      rcases Nat.lt_trichotomy i τ with h | h | h
      · exact absurd (j.tau i x h hx ha) hn
      · exact h.symm
      · have hy := List.getElem?_eq_getElem (show τ < os.length by omega)
        obtain ⟨g1, g2⟩ := j.tau' _ hy
        exact absurd ((c.ahead j.cl ho hx hready hn hy (.inr (.inl ⟨g1, by omega⟩))).1 h) g2
    subst hτ
    obtain ⟨τ', t1, t2, t3, t4⟩ := next_eff os (os.length - (τ + 1)) (τ + 1) (by omega)
    have hag : Agree (getO T (hs (τ + 1))) (getO T (hs τ')) := by
      have := c.agree (τ + 1) (τ' - (τ + 1)) (by omega) (fun k y h1 h2 h3 => t3 k y h1 (by omega) h3)
      rwa [show τ + 1 + (τ' - (τ + 1)) = τ' by omega] at this
    obtain ⟨s1, s2⟩ := j.slots c hsz ho hx hready hn (fun h => he.rep h) hv
    have hdom : ∀ l m r, φ' l m = some r → (getO T (hs τ') l m).isSome → (getO T (hs (τ + 1)) l m).isSome := by
      intro l m r h hsome
      have hlT := (hinv.bnd l m r h).1
      cases hq : getO T (hs (τ + 1)) l m with
      | some o' => rfl
      | none =>
        exfalso
        rcases domNew he l m r h with h1 | ⟨k, h1, h2, h3⟩
        · have h0n : getO T (hs 0) l m = none := by
            cases hq0 : getO T (hs 0) l m with
            | none => rfl
            | some o' => have := c.grow (Nat.zero_le (τ + 1)) (by omega) (l := l) (i := m) (by rw [hq0]; rfl); rw [hq] at this; cases this
          have := hF l m hlT h0n (hgrowN t2 hsome)
          rw [this] at h1; cases h1
        · have hkl := hltL k h1
          rcases Nat.lt_or_ge τ k with hk | hk
          · have hy := List.getElem?_eq_getElem hkl
            have hact : os[k].op.act ≠ 0 := by
              intro h0
              obtain ⟨b', _, _, q⟩ := c.tr.step k _ hy
              rcases q with ⟨_, q⟩ | ⟨_, _, q⟩
              · have hsame : hs (k + 1) = hs k := by
                  have hq1 : step bar T os[k].op (ρs k) (hs k) = some (ds k, hs (k + 1)) := by
                    rcases act_zero h0 with hp | ⟨s, hp⟩
                    · revert q hp; cases os[k].op <;> intro q hp <;> first | exact q | (cases hp; done)
                    · rw [hp] at q; simp [opD, step] at q
                  exact step_same (by omega) (by omega) hq1
                rw [hsame, h2] at h3; cases h3
              · rw [q, h2] at h3; cases h3
            exact (c.ahead j.cl ho hx hready hn hy (.inl ⟨ha, hact⟩)).2 hk (h1.resolve_right (by omega))
          · have := c.grow (show k + 1 ≤ τ + 1 by omega) (by omega) h3
            rw [hq] at this; cases this
    refine hK _ w' φ' τ' ⟨with_closed j.cl ho hready, hltL, s1, s2, t2, fun k y h1 h2 h3 => ?_, fun y hy => ⟨t4 y hy, ?_⟩, ?_, inv_eff hinv hag hdom, domNew he, by rw [put_size, j.siz], by rw [put_defers, j.dfr]⟩
    · rcases Nat.lt_trichotomy k τ with h | h | h
      · exact .inl (j.tau k y h h2 h3)
      · exact .inr h
      · exact absurd h3 (t3 k y (by omega) h1 h2)
    · rintro (h | h)
      · exact (c.ahead j.cl ho hx hready hn hy (.inr (.inl ⟨t4 y hy, by omega⟩))).2 (by omega) h
      · omega
    · refine ext_up (fun l m r h => (hinv.bnd l m r h).1) j.ext he (Agree.refl _) (fun l m _ h => c.grow (Nat.zero_le _) (by omega) h) (fun l m h => c.grow t1 t2 h) (fun l m h => c.grow (by omega) t2 h) (fun l m r h hl => ?_)
      obtain ⟨o', g1, g2⟩ := hl
      have hs1 := hdom l m r (he.ref l m r h) (by rw [g1]; rfl)
      obtain ⟨o2, hq⟩ := Option.isSome_iff_exists.1 hs1
      have := hag l m o2 hq
      rw [g1] at this; cases this
      exact he.live l m r h ⟨_, hq, g2⟩
  -- the operation
  unfold wpOp
  simp only [ho, hwant]
  rcases hst with ⟨rfl, hop⟩ | ⟨rfl, hds, hhs⟩
  · rw [if_pos rfl]
    refine .inl ?_
    have hop' : opD A S bar T x.op (only x.us (ρs i)) (hs i) = some (ds i, hs (i + 1)) := by rw [opD_us hou]; exact hop
    rcases hokx.2.1 with ⟨y, ⟨hc, hy⟩ | ⟨s, hbad⟩⟩
    · have hfresh : Fresh T φ (getO T (hs i)) (getO T (hs (i + 1))) := by
        intro l m hl h0 h1
        cases hq : φ l m with
        | none => rfl
        | some r =>
          exfalso
          rcases j.dom l m r hq with g | ⟨k, g1, g2, g3⟩
          · have h0n : getO T (hs 0) l m = none := by
              cases hq0 : getO T (hs 0) l m with
              | none => rfl
              | some o' => have := c.grow (Nat.zero_le i) (by omega) (l := l) (i := m) (by rw [hq0]; rfl); rw [h0] at this; cases this
            have := hF l m hl h0n (hgrowN (by omega) h1)
            rw [this] at g; cases g
          · rcases Nat.lt_trichotomy k i with hk | hk | hk
            · have := c.grow (show k + 1 ≤ i by omega) (by omega) g3; rw [h0] at this; cases this
            · subst hk; exact hn g1
            · have := c.grow (show i + 1 ≤ k by omega) (Nat.le_of_lt (j.lt k g1)) h1; rw [g2] at this; cases this
      by_cases ha0 : x.op.act = 0
      · -- a computation
        have hxy : x.op = y := by
          rcases hy with h | h
          · exact h
          · rw [h] at ha0 ⊢
            cases y <;> first | rfl | (cases ha0; done)
        rcases act_zero ha0 with hp | ⟨s, hp⟩
        · have hst : step bar T x.op (only x.us (ρs i)) (hs i) = some (ds i, hs (i + 1)) := by
            revert hop' hp; cases x.op <;> intro hop' hp <;> first | exact hop' | (cases hp; done)
          rw [← hxy] at hc
          obtain ⟨_, v, hg, hr⟩ := pure_sim hc hp hst henv
          unfold Oper.wp
          rcases hg with hg | ⟨hg, rfl⟩
          · rw [hg, Oper.upon_value]; exact still (by omega) v hr
          · rw [hg, Oper.upon_skip]; exact still (by omega) undef hr
        · rw [hp] at hop; simp [opD, step] at hop
      · by_cases ha2 : x.op.act = 2
        · have hτ : τ = i := by
            rcases Nat.lt_trichotomy i τ with h | h | h
            · exact absurd (j.tau i x h hx ha2) hn
            · exact h.symm
            · have hy2 := List.getElem?_eq_getElem (show τ < os.length by omega)
              obtain ⟨g1, g2⟩ := j.tau' _ hy2
              exact absurd ((c.ahead j.cl ho hx hready hn hy2 (.inr (.inl ⟨g1, by omega⟩))).1 h) g2
          have hinv : Inv φ w T (getO T (hs i)) := hτ ▸ j.inv
          exact oper_wp c.links c.sim hc hy hop' henv hlen c.hbar hinv hfresh fun v w' φ' e1 e2 e3 => moves ha2 v w' φ' e1 e2 e3
        · -- it looks at the heap, or makes an object
          have hiτ : i < τ := by
            rcases Nat.lt_or_ge i τ with h | h
            · exact h
            · have hy2 := List.getElem?_eq_getElem (show τ < os.length by omega)
              obtain ⟨g1, g2⟩ := j.tau' _ hy2
              rcases Nat.lt_or_ge τ i with h2 | h2
              · exact absurd ((c.ahead j.cl ho hx hready hn hy2 (.inr (.inl ⟨g1, ha0⟩))).1 h2) g2
              · have : τ = i := by omega
                subst this; rw [hx] at hy2; cases hy2; exact absurd g1 ha2
          have hno : ∀ k y, i ≤ k → k < τ → os[k]? = some y → y.op.act ≠ 2 := by
            intro k y h1 h2 h3 h4
            by_cases e : k = i
            · subst e; rw [hx] at h3; cases h3; exact ha2 h4
            · exact (c.ahead j.cl ho hx hready hn h3 (.inr (.inl ⟨h4, ha0⟩))).2 (by omega) (j.tau k y h2 h3 h4)
          have hag0 : Agree (getO T (hs i)) (getO T (hs τ)) := by
            have := c.agree i (τ - i) (by have := j.tauN; omega) (fun k y h1 h2 h3 => hno k y h1 (by omega) h3)
            rwa [show i + (τ - i) = τ by omega] at this
          have hag1 : Agree (getO T (hs (i + 1))) (getO T (hs τ)) := by
            have := c.agree (i + 1) (τ - (i + 1)) (by have := j.tauN; omega) (fun k y h1 h2 h3 => hno k y (by omega) (by omega) h3)
            rwa [show i + 1 + (τ - (i + 1)) = τ by omega] at this
          refine oper_wp c.links c.sim hc hy hop' henv hlen c.hbar (inv_sub j.inv hag0) hfresh fun v w' φ' e1 e2 e3 => ?_
          obtain ⟨s1, s2⟩ := j.slots c hsz ho hx hready hn (fun h => e2.rep h) e1
          refine hK _ w' φ' τ ⟨with_closed j.cl ho hready, hltL, s1, s2, j.tauN, fun k y h1 h2 h3 => .inl (j.tau k y h1 h2 h3), fun y hy => ⟨(j.tau' y hy).1, ?_⟩, ?_, inv_up j.inv e2 e3 hag0 hag1, domNew e2, by rw [put_size, j.siz], by rw [put_defers, j.dfr]⟩
          · rintro (h | h)
            · exact (j.tau' y hy).2 h
            · omega
          · exact ext_up (fun l m r h => (e3.bnd l m r h).1) j.ext e2 hag0 (fun l m _ h => c.grow (Nat.zero_le _) (by omega) h) (fun l m h => c.grow (by omega) j.tauN h) (fun l m h => h) (fun l m r _ h => h)
    · rw [hbad] at hop; simp [opD, step] at hop
  · simp only [Bool.false_eq_true, if_false]
    by_cases ha2 : x.op.act = 2
    · have hτ : τ = i := by
        rcases Nat.lt_trichotomy i τ with h | h | h
        · exact absurd (j.tau i x h hx ha2) hn
        · exact h.symm
        · have hy2 := List.getElem?_eq_getElem (show τ < os.length by omega)
          obtain ⟨g1, g2⟩ := j.tau' _ hy2
          exact absurd ((c.ahead j.cl ho hx hready hn hy2 (.inr (.inl ⟨g1, by omega⟩))).1 h) g2
      have hinv : Inv φ w T (getO T (hs i)) := hτ ▸ j.inv
      exact moves ha2 undef w φ (by rw [hds]; exact .undef) (by rw [hhs]; exact Ext.refl _ _ _ _) (by rw [hhs]; exact hinv)
    · exact still ha2 undef (by rw [hds]; exact .undef)
end
end AM
/- A whole region that draws its order. -/
namespace AM
open Go

section
variable {P : Program} {A : Prog} {S : Mch} {bar T n : Nat} {ops : Array Oper} {os : List AOper} {ρ0 ρ' : Env} {h0 h' : Heap} {ρs : Nat → Env} {hs : Nat → Heap} {ds : Nat → D}
variable {φ0 φ : Refs} {w0 w : World} {a0 a : Act} {L : Nat → Prop} {τ : Nat}

/-- All has been carried out. -/
theorem J.done (c : Ctx P A S bar T n ops os ρ0 h0 ρ' h' ρs hs ds) (j : J P T ops os ρ0 hs ds φ0 w0 a0 L a w φ τ) (hall : ∀ i, i < os.length → L i) :
    EnvR φ w a ρ' ∧ Ext T (getO T h0) φ0 w0 (getO T h') φ w ∧ Inv φ w T (getO T h') := by
  have hτ : τ = os.length := by
    rcases Nat.lt_or_ge τ os.length with h | h
    · exact absurd (hall τ h) (j.tau' _ (List.getElem?_eq_getElem h)).2
    · have := j.tauN; omega
  have he := j.ext
  have hi := j.inv
  rw [hτ, c.tr.hN] at he hi
  rw [c.tr.h0] at he
  refine ⟨fun t d hd => ?_, he, hi⟩
  rw [← c.tr.eN] at hd
  rcases c.at t d _ (Nat.le_refl _) hd with ⟨k, y, g1, g2, g3, g4, g5⟩ | ⟨g1, g2⟩
  · subst g4
    refine j.slot k y t g2 (hall k g1) g3 fun k' y' q1 q2 q3 => ?_
    rcases Nat.lt_or_ge k k' with hk | hk
    · exact absurd q3 (g5 k' y' hk (lt_of_at q1) q1)
    · exact hk
  · exact j.slot0 t d g2 fun k y q1 q2 => g1 k y (lt_of_at q1) q1

theorem wpAny_draw (c : Ctx P A S bar T n ops os ρ0 h0 ρ' h' ρs hs ds) (hsz : n ≤ a0.tmps.size) (hF : Fresh T φ0 (getO T (hs 0)) (getO T (hs os.length))) {Q : Exit → Act → World → Prop}
    (hQ : ∀ a' w' φ', EnvR φ' w' a' ρ' → Ext T (getO T h0) φ0 w0 (getO T h') φ' w' → Inv φ' w' T (getO T h') → a'.defers = a0.defers → a'.tmps.size = a0.tmps.size → Q .normal a' w') :
    ∀ (fuel : Nat) (listed : Array Bool) (a : Act) (w : World) (φ : Refs) (τ : Nat), listed.size = os.length → listed.toList.count false ≤ fuel → J P T ops os ρ0 hs ds φ0 w0 a0 (fun i => listed.getD i false = true) a w φ τ → wpAny P .any ops Q fuel listed a w := by
  have fin : ∀ (listed : Array Bool) (a : Act) (w : World) (φ : Refs) (τ : Nat), listed.size = os.length → J P T ops os ρ0 hs ds φ0 w0 a0 (fun i => listed.getD i false = true) a w φ τ → Region.ready .any ops listed = [] → Q .normal a w := by
    intro listed a w φ τ hls j hr
    have hall : ∀ i, i < os.length → listed.getD i false = true := by
      intro i
      induction i using Nat.strongRecOn with
      | _ i ih =>
        intro hi
        have hio : i < ops.size := by rw [← c.ok.1]; exact hi
        cases hq : listed.getD i false with
        | true => rfl
        | false =>
          exfalso
          have hm : i ∈ Region.ready .any ops listed := by
            rw [mem_ready]
            refine ⟨?_, ops[i], Array.getElem?_eq_getElem hio, fun e he hb => ?_⟩
            · have : i < listed.size := by omega
              simp [this] at hq ⊢; exact hq
            · have hlt := c.back i _ e (Array.getElem?_eq_getElem hio) he hb
              exact ih e.on hlt (by omega)
          rw [hr] at hm; cases hm
    obtain ⟨g1, g2, g3⟩ := j.done c hall
    exact hQ a w φ g1 g2 g3 j.dfr j.siz
  intro fuel
  induction fuel with
  | zero =>
    intro listed a w φ τ hls hcnt j
    have hr : Region.ready .any ops listed = [] := by
      refine List.eq_nil_iff_forall_not_mem.2 fun i hm => ?_
      rw [mem_ready] at hm
      obtain ⟨h1, o, h2, _⟩ := hm
      have hlt : i < listed.size := by
        rcases Nat.lt_or_ge i listed.size with h | h
        · exact h
        · simp [Array.getElem?_eq_none h] at h1
      have h3 : listed[i] = false := by simpa [hlt] using h1
      have h4 : false ∈ listed.toList := by
        rw [← h3]; simp
      have := List.count_pos_iff.2 h4
      omega
    exact ⟨hr, fin listed a w φ τ hls j hr⟩
  | succ fuel ih =>
    intro listed a w φ τ hls hcnt j
    refine ⟨fin listed a w φ τ hls j, fun i hm => ?_⟩
    rw [mem_ready] at hm
    obtain ⟨h1, o, ho, hready⟩ := hm
    have hlt : i < listed.size := by
      rcases Nat.lt_or_ge i listed.size with h | h
      · exact h
      · simp [Array.getElem?_eq_none h] at h1
    have h3 : listed[i] = false := by simpa [hlt] using h1
    have hx := List.getElem?_eq_getElem (show i < os.length by omega)
    refine draw_step c hsz hF j ho hx hready (by simp [hlt, h3]) fun a' w' φ' τ' j' => ?_
    refine ih (listed.setIfInBounds i true) a' w' φ' τ' (by simpa using hls) ?_ ?_
    · rw [Array.toList_setIfInBounds, List.count_set (by simpa using hlt)]
      have h4 : false ∈ listed.toList := by rw [← h3]; simp
      have := List.count_pos_iff.2 h4
      have e1 : listed.toList[i]'(by simpa using hlt) = false := by simpa using h3
      rw [e1]
      show listed.toList.count false - 1 + 0 ≤ fuel
      omega
    · have hL : With (fun i => listed.getD i false = true) i = fun k => (listed.setIfInBounds i true).getD k false = true := by
        funext k
        apply propext
        by_cases hk : i = k
        · subst hk; simp [With, hlt]
        · simp only [With, getD_set_ne false hk]
          constructor
          · rintro (h | h)
            · exact h
            · exact absurd h.symm hk
          · exact .inl
      rw [← hL]; exact j'

theorem wp_draw (hL : Links P A) (hS : CallSim P S) (hK : Keeps S) (hok : OpersOk P ops os) (hd : DstOk n ops) (hb : bar < T) (hl : h0.length = T) (hm : P.follows .mixedOrders = true)
    (hpairs : ∀ i j x y, i < j → os[i]? = some x → os[j]? = some y → pairOk (Region.before ops) x y i j = true) (hback : ∀ (i : Nat) (o : Oper) (e : Edge), ops[i]? = some o → e ∈ o.after → Region.binds .any e = true → e.on < i)
    (hops : opsD A S bar T os ρ0 h0 = some (ρ', h')) (he : EnvR φ0 w0 a0 ρ0) (hI : Inv φ0 w0 T (getO T h0)) (hF : Fresh T φ0 (getO T h0) (getO T h')) (hn : n ≤ a0.tmps.size) {id : Nat} {Q : Exit → Act → World → Prop}
    (hQ : ∀ a' w' φ', EnvR φ' w' a' ρ' → Ext T (getO T h0) φ0 w0 (getO T h') φ' w' → Inv φ' w' T (getO T h') → a'.defers = a0.defers → a'.tmps.size = a0.tmps.size → Q .normal a' w') : (Code.region id ops true).wp P Q a0 w0 := by
  obtain ⟨ρs, hs, ds, tr⟩ := tr_exists hops
  have c : Ctx P A S bar T n ops os ρ0 h0 ρ' h' ρs hs ds := ⟨hL, hS, hK, hok, hd, hb, tr, hl, hpairs, hback⟩
  refine wp_region_any hm ?_
  obtain ⟨τ, t1, t2, t3, t4⟩ := next_eff os os.length 0 (by omega)
  have hag : Agree (getO T (hs 0)) (getO T (hs τ)) := by
    have := c.agree 0 τ (by omega) (fun k y h1 h2 h3 => t3 k y h1 (by omega) h3)
    rwa [Nat.zero_add] at this
  have hF' : Fresh T φ0 (getO T (hs 0)) (getO T (hs os.length)) := by rw [tr.h0, tr.hN]; exact hF
  -- the draw
  have hdrew : Ext T (getO T (hs 0)) φ0 w0 (getO T (hs 0)) φ0 { w0 with drawn := w0.drawn + 1 } := ⟨rfl, rfl, rfl, Nat.le_refl _, fun _ _ _ h => h, fun _ _ _ => rfl, fun _ _ _ h => .inl h, fun _ _ _ _ h => h, fun _ _ _ h => h⟩
  have hI0 : Inv φ0 { w0 with drawn := w0.drawn + 1 } T (getO T (hs 0)) := by
    rw [tr.h0] at hdrew ⊢
    exact ⟨hI.bnd, hI.lev, hI.inj, fun l i r o h1 h2 => (hI.obj l i r o h1 h2).ext hdrew rfl⟩
  have hdom : ∀ l i r, φ0 l i = some r → (getO T (hs τ) l i).isSome → (getO T (hs 0) l i).isSome := by
    intro l i r h hsome
    cases hq : getO T (hs 0) l i with
    | some o => rfl
    | none =>
      have := hF' l i (hI.bnd l i r h).1 hq (c.grow t2 (Nat.le_refl _) hsome)
      rw [this] at h; cases h
  refine wpAny_draw c hn hF' hQ ops.size (Array.replicate ops.size false) a0 _ φ0 τ (by simp [hok.1]) (by simp) ⟨?_, ?_, ?_, ?_, t2, ?_, ?_, ?_, inv_eff hI0 hag hdom, ?_, rfl, rfl⟩
  · intro i o _ h; simp [Array.getElem?_replicate] at h; split at h <;> simp at h
  · intro i h; simp [Array.getElem?_replicate] at h; split at h <;> simp at h
  · intro j x t _ h; simp [Array.getElem?_replicate] at h; split at h <;> simp at h
  · intro t d h _
    obtain ⟨v, g1, g2⟩ := he t d h
    exact ⟨v, g1, hdrew.rep g2⟩
  · intro k x h1 h2 h3; exact absurd h3 (t3 k x (Nat.zero_le _) h1 h2)
  · intro x hx; refine ⟨t4 x hx, fun h => ?_⟩; simp [Array.getElem?_replicate] at h; split at h <;> simp at h
  · refine ext_up (fun l i r h => (hI.bnd l i r h).1) hdrew (Ext.refl T (getO T (hs 0)) _ _) (Agree.refl _) (fun _ _ _ h => h) (fun l i h => c.grow (Nat.zero_le _) t2 h) (fun l i h => c.grow (Nat.zero_le _) t2 h) (fun l i r h hl => ?_)
    obtain ⟨o, g1, g2⟩ := hl
    obtain ⟨o2, hq⟩ := Option.isSome_iff_exists.1 (hdom l i r h (by rw [g1]; rfl))
    have := hag l i o2 hq
    rw [g1] at this; cases this
    exact ⟨_, hq, g2⟩
  · intro l i r h; exact .inl h
end
end AM
/- Code: the model's rule from the abstract machine's run. -/
namespace AM
open Go

def core : ACode → ACode
  | .kp _ c => core c
  | c => c
theorem strip_core : ∀ x, strip (core x) = strip x
  | .kp _ c => by simp only [core, strip]; exact strip_core c
  | .skip | .reg .. | .seq .. | .cond .. | .blk .. | .loop _ | .exit _ | .ret | .bad _ => rfl
theorem core_kp : ∀ x ks c, core x ≠ .kp ks c
  | .kp _ c, ks, d => by simp only [core]; exact core_kp c ks d
  | .skip, _, _ | .reg .., _, _ | .seq .., _, _ | .cond .., _, _ | .blk .., _, _ | .loop _, _, _ | .exit _, _, _ | .ret, _, _ | .bad _, _, _ => by simp [core]

theorem keep_sub : ∀ {ks : List Nat} {ρ ρ' : Env}, keep ks ρ = some ρ' → ∀ t d, lk ρ' t = some d → lk ρ t = some d
  | [], ρ, ρ', h, t, d, hd => by simp only [keep, Option.some.injEq] at h; subst h; simp [lk] at hd
  | k :: r, ρ, ρ', h, t, d, hd => by
    simp only [keep] at h
    obtain ⟨e, h1, h2⟩ := bnd_eq h
    obtain ⟨ρ1, h3, h4⟩ := bnd_eq h2
    simp only [Option.some.injEq] at h4; subst h4
    simp only [lk] at hd
    by_cases q : k = t
    · subst q
      simp only [beq_self_eq_true, brk_true, Option.some.injEq] at hd
      rw [h1, hd]
    · have : (k == t) = false := by simpa using q
      simp only [this, brk_false] at hd
      exact keep_sub h3 t d hd

def exitOf : Ex → Exit
  | .normal => .normal
  | .exit id => .exit id
  | .ret => .ret

section
variable {P : Program} {A : Prog} {S : Mch} {bar T n : Nat}

theorem exec_core : ∀ {x : ACode} {ρ : Env} {h : Heap} {r}, exec A S bar T x ρ h = some r → ∃ ρ1, (∀ t d, lk ρ1 t = some d → lk ρ t = some d) ∧ exec A S bar T (core x) ρ1 h = some r
  | .kp ks c, ρ, h, r, hx => by
    simp only [exec] at hx
    obtain ⟨ρ1, h1, h2⟩ := bnd_eq hx
    obtain ⟨ρ2, g1, g2⟩ := exec_core h2
    exact ⟨ρ2, fun t d hd => keep_sub h1 t d (g1 t d hd), g2⟩
  | .skip, ρ, h, r, hx => ⟨ρ, fun _ _ h => h, hx⟩
  | .reg .., ρ, h, r, hx => ⟨ρ, fun _ _ h => h, hx⟩
  | .seq .., ρ, h, r, hx => ⟨ρ, fun _ _ h => h, hx⟩
  | .cond .., ρ, h, r, hx => ⟨ρ, fun _ _ h => h, hx⟩
  | .blk .., ρ, h, r, hx => ⟨ρ, fun _ _ h => h, hx⟩
  | .loop _, ρ, h, r, hx => ⟨ρ, fun _ _ h => h, hx⟩
  | .exit _, ρ, h, r, hx => ⟨ρ, fun _ _ h => h, hx⟩
  | .ret, ρ, h, r, hx => ⟨ρ, fun _ _ h => h, hx⟩
  | .bad _, ρ, h, r, hx => ⟨ρ, fun _ _ h => h, hx⟩

/-- What holds when code has come to its end. -/
def Post (T n : Nat) (C : Cont) (φ : Refs) (w : World) (e : Ex) (ρ' : Env) (h' : Heap) : Exit → Act → World → Prop :=
  fun x a' w' => x = exitOf e ∧ ∃ φ', EnvR φ' w' a' ρ' ∧ Ext T C φ w (getO T h') φ' w' ∧ Inv φ' w' T (getO T h') ∧ a'.defers = [] ∧ n ≤ a'.tmps.size

/-- A loop's round. -/
def LoopWp (P : Program) (c : Code) (Q : Exit → Act → World → Prop) (a : Act) (w : World) : Prop :=
  ∀ (b : Frame) (k : List Item) (cs : List Frame), ∃ e a' w', Q e a' w' ∧ Arrives P (lone (b.at a (.code c :: .inLoop c :: k)) cs w) b k cs e a' w'

theorem loopWp_of {c : Code} {Q : Exit → Act → World → Prop} {a : Act} {w : World} (h : c.wp P (Exit.then (LoopWp P c Q) Q) a w) : LoopWp P c Q a w := by
  intro b k cs
  obtain ⟨e, a1, w1, hq, harr⟩ := h b (.inLoop c :: k) cs
  cases e with
  | normal =>
    obtain ⟨e2, a2, w2, hq2, harr2⟩ := hq b k cs
    exact ⟨e2, a2, w2, hq2, .of_steps (Steps.trans harr (.one step_inLoop)) harr2⟩
  | exit id => exact ⟨_, a1, w1, hq, .pass (x := .inLoop c) rfl (fun _ _ => .inl (by simp)) harr⟩
  | goto l => exact ⟨_, a1, w1, hq, .pass (x := .inLoop c) rfl (fun _ _ => .inl (by simp)) harr⟩
  | ret => exact ⟨_, a1, w1, hq, .pass (x := .inLoop c) rfl (fun _ _ => .inl (by simp)) harr⟩
  | panic ch => exact ⟨_, a1, w1, hq, .pass (x := .inLoop c) rfl (fun _ _ => .inl (by simp)) harr⟩
  | outgrown => exact ⟨_, a1, w1, hq, .pass (x := .inLoop c) rfl (fun _ _ => .inl (by simp)) harr⟩

theorem wp_loopWp {c : Code} {Q : Exit → Act → World → Prop} {a : Act} {w : World} (h : LoopWp P c Q a w) : (Code.loop c).wp P Q a w := by
  intro b k cs
  obtain ⟨e, a1, w1, hq, harr⟩ := h b k cs
  exact ⟨e, a1, w1, hq, .of_steps (.one step_loop) harr⟩

def LpSim (P : Program) (S : Mch) : Prop := ∀ bar T n b ρ h e ρ' h' φ w a c, h.length = T → bar < T → S.lp bar T b ρ h = some (e, ρ', h') → strip b = cCode P c → okDst n c = true → EnvR φ w a ρ → Inv φ w T (getO T h) → a.defers = [] → n ≤ a.tmps.size →
  Fresh T φ (getO T h) (getO T h') → LoopWp P c (Post T n (getO T h) φ w e ρ' h') a w

/-! ### Regions -/
theorem cOpers_at {ops : Array Oper} : ∀ {l : List Oper} {os : List AOper}, cOpers P ops l = some os → os.length = l.length ∧ ∀ (i : Nat) (o : Oper) (x : AOper), l[i]? = some o → os[i]? = some x → cOper P ops o = some x
  | [], os, h => by simp only [cOpers, Option.some.injEq] at h; subst h; simp
  | o :: l, os, h => by
    simp only [cOpers] at h
    split at h
    · rename_i x xs h1 h2
      simp only [Option.some.injEq] at h; subst h
      obtain ⟨g1, g2⟩ := cOpers_at h2
      refine ⟨by simp [g1], fun i o' x' ho hx => ?_⟩
      cases i with
      | zero => simp at ho hx; subst ho; subst hx; exact h1
      | succ i => exact g2 i o' x' (by simpa using ho) (by simpa using hx)
    · cases h

theorem cOper_inv {ops : Array Oper} {o : Oper} {x : AOper} (h : cOper P ops o = some x) : x.dst = o.dst ∧ x.op = (cOp P o.op).getD (.bad o.pos) ∧
    ((o.guard = none ∧ x.guard = none) ∨ ∃ j b t, o.guard = some (j, b) ∧ (ops[j]?).bind (·.dst) = some t ∧ x.guard = some (t, b)) := by
  obtain ⟨dst, op, ty, pos, after, guard⟩ := o
  cases guard with
  | none =>
    have : some { dst := dst, op := (cOp P op).getD (.bad pos), guard := none } = some x := h
    cases this
    exact ⟨rfl, rfl, .inl ⟨rfl, rfl⟩⟩
  | some p =>
    obtain ⟨j, b⟩ := p
    cases ht : (ops[j]?).bind (·.dst) with
    | none => simp [cOper, ht] at h
    | some t =>
      have : some { dst := dst, op := (cOp P op).getD (.bad pos), guard := some (t, b) } = some x := by rw [← h]; simp [cOper, ht]
      cases this
      exact ⟨rfl, rfl, .inr ⟨j, b, t, rfl, ht, rfl⟩⟩

theorem cOper_ok {ops : Array Oper} {o : Oper} {x : AOper} (h : cOper P ops o = some x) : OperOk P ops o x := by
  obtain ⟨h1, h2, h3⟩ := cOper_inv h
  refine ⟨h1, ?_, h3⟩
  cases hc : cOp P o.op with
  | none => rw [hc] at h2; exact ⟨.bad "", .inr ⟨o.pos, h2⟩⟩
  | some y => rw [hc] at h2; exact ⟨y, .inl ⟨rfl, .inl h2⟩⟩

theorem barAll_ok {ops : Array Oper} {bf : Array Nat} {os : List AOper} (h : OpersOk P ops os) (hp : ∀ (i : Nat) (o : Oper) (x : AOper), ops[i]? = some o → os[i]? = some x → cOper P ops o = some x) : OpersOk P ops (barAll bf os) := by
  refine ⟨by simp [barAll, h.1], fun i o x ho hx => ?_⟩
  simp only [barAll, List.getElem?_map, List.getElem?_zipIdx] at hx
  cases hq : os[i]? with
  | none => simp [hq] at hx
  | some y =>
    simp only [hq, Option.map_some, Option.some.injEq] at hx
    have hy := cOper_ok (hp i o y ho hq)
    split at hx
    · subst hx
      refine ⟨hy.1, ?_, hy.2.2⟩
      obtain ⟨_, h2, _⟩ := cOper_inv (hp i o y ho hq)
      cases hc : cOp P o.op with
      | none => rw [hc] at h2; exact ⟨.bad "", .inr ⟨o.pos, by show y.op.barred = _; rw [h2]; rfl⟩⟩
      | some z => rw [hc] at h2; exact ⟨z, .inl ⟨rfl, .inr (by show y.op.barred = _; rw [h2]; rfl)⟩⟩
    · subst hx; exact hy

theorem pairsOk_at {bf : Array Nat} {os : List AOper} (h : pairsOk bf os = true) : ∀ i j x y, i < j → os[i]? = some x → os[j]? = some y → pairOk bf x y i j = true := by
  intro i j x y hij hx hy
  have h1 := List.all_eq_true.1 h (y, j) (by
    refine List.mem_iff_getElem?.2 ⟨j, ?_⟩
    rw [List.getElem?_zipIdx, hy]; simp)
  have h2 := List.all_eq_true.1 h1 (x, i) (by
    refine List.mem_iff_getElem?.2 ⟨i, ?_⟩
    rw [List.getElem?_zipIdx, hx]; simp)
  simpa [hij] using h2

theorem backOk_at {ops : Array Oper} (h : backOk ops = true) : ∀ (i : Nat) (o : Oper) (e : Edge), ops[i]? = some o → e ∈ o.after → Region.binds .any e = true → e.on < i := by
  intro i o e ho he hb
  have h1 := List.all_eq_true.1 h (o, i) (by
    refine List.mem_iff_getElem?.2 ⟨i, ?_⟩
    rw [List.getElem?_zipIdx, Array.getElem?_toList, ho]; simp)
  have h2 := List.all_eq_true.1 h1 e (by simpa using he)
  simpa [hb] using h2

theorem okDst_at {ops : Array Oper} {id : Nat} {dr : Bool} (h : okDst n (.region id ops dr) = true) : DstOk n ops := by
  intro i o t ho hd
  have h1 := List.all_eq_true.1 h o (by
    refine List.mem_iff_getElem?.2 ⟨i, ?_⟩
    rw [Array.getElem?_toList, ho])
  simpa [hd] using h1
end
end AM
/- All code: the model's rule from the abstract machine's run. -/
namespace AM
open Go

section
variable {P : Program} {A : Prog} {S : Mch} {bar T n : Nat}

theorem cReg_inv {ops : Array Oper} {dr : Bool} : (∃ os, cReg P ops dr = .reg os dr ∧ OpersOk P ops os ∧ (dr = true → (∀ i j x y, i < j → os[i]? = some x → os[j]? = some y → pairOk (Region.before ops) x y i j = true) ∧
    (∀ (i : Nat) (o : Oper) (e : Edge), ops[i]? = some o → e ∈ o.after → Region.binds .any e = true → e.on < i) ∧ P.follows .mixedOrders = true)) ∨ ∃ s, cReg P ops dr = .bad s := by
  unfold cReg
  cases hc : cOpers P ops ops.toList with
  | none => exact .inr ⟨_, rfl⟩
  | some os =>
    obtain ⟨h1, h2⟩ := cOpers_at hc
    have hp : ∀ (i : Nat) (o : Oper) (x : AOper), ops[i]? = some o → os[i]? = some x → cOper P ops o = some x := fun i o x ho hx => h2 i o x (by simpa using ho) hx
    have hok : OpersOk P ops os := ⟨by simpa using h1, fun i o x ho hx => cOper_ok (hp i o x ho hx)⟩
    cases dr with
    | false => exact .inl ⟨os, rfl, hok, fun h => by cases h⟩
    | true =>
      simp only [if_true]
      by_cases hq : (pairsOk (Region.before ops) (barAll (Region.before ops) os) && (backOk ops && P.follows .mixedOrders)) = true
      · rw [if_pos hq]
        simp only [Bool.and_eq_true] at hq
        exact .inl ⟨_, rfl, barAll_ok hok hp, fun _ => ⟨pairsOk_at hq.1, backOk_at hq.2.1, hq.2.2⟩⟩
      · rw [if_neg hq]; exact .inr ⟨_, rfl⟩

/-- What code comes to. -/
def CodeSim (P : Program) (A : Prog) (S : Mch) (n : Nat) (c : Code) : Prop := ∀ bar T x ρ h e ρ' h' φ w a, bar < T → exec A S bar T x ρ h = some (e, ρ', h') → strip x = cCode P c → okDst n c = true → h.length = T → EnvR φ w a ρ → Inv φ w T (getO T h) → a.defers = [] → n ≤ a.tmps.size →
  Fresh T φ (getO T h) (getO T h') → c.wp P (Post T n (getO T h) φ w e ρ' h') a w

/-- It is enough to look at what is behind what is forgotten. -/
theorem codeSim_of {c : Code} (hh : ∀ bar T x ρ h e ρ' h' φ w a, (∀ ks y, x ≠ .kp ks y) → bar < T → exec A S bar T x ρ h = some (e, ρ', h') → strip x = cCode P c → okDst n c = true → h.length = T → EnvR φ w a ρ → Inv φ w T (getO T h) → a.defers = [] → n ≤ a.tmps.size →
    Fresh T φ (getO T h) (getO T h') → c.wp P (Post T n (getO T h) φ w e ρ' h') a w) : CodeSim P A S n c := by
  intro bar T x ρ h e ρ' h' φ w a hb hx hst hd hl he hI hdf hn hF
  obtain ⟨ρ1, g1, g2⟩ := exec_core hx
  exact hh bar T (core x) ρ1 h e ρ' h' φ w a (core_kp x) hb g2 ((strip_core x).trans hst) hd hl (fun t d hd => he t d (g1 t d hd)) hI hdf hn hF

theorem exec_sim (hL : Links P A) (hS : CallSim P S) (hLp : LpSim P S) (hK : Keeps S) : ∀ c : Code, CodeSim P A S n c := by
  intro c
  induction c with
  | skip =>
    refine codeSim_of fun bar T x ρ h e ρ' h' φ w a hk hb hx hst hd hl he hI hdf hn hF => ?_
    cases x <;> simp only [strip, cCode, reduceCtorEq] at hst
    · simp only [exec, Option.some.injEq, Prod.mk.injEq] at hx
      obtain ⟨rfl, rfl, rfl⟩ := hx
      exact wp_skip ⟨rfl, φ, he, Ext.refl _ _ _ _, hI, hdf, hn⟩
    · exact absurd rfl (hk _ _)
  | label l =>
    refine codeSim_of fun bar T x ρ h e ρ' h' φ w a hk hb hx hst hd hl he hI hdf hn hF => ?_
    cases x <;> simp only [strip, cCode, reduceCtorEq] at hst
    · simp only [exec, Option.some.injEq, Prod.mk.injEq] at hx
      obtain ⟨rfl, rfl, rfl⟩ := hx
      exact wp_label ⟨rfl, φ, he, Ext.refl _ _ _ _, hI, hdf, hn⟩
    · exact absurd rfl (hk _ _)
  | ret =>
    refine codeSim_of fun bar T x ρ h e ρ' h' φ w a hk hb hx hst hd hl he hI hdf hn hF => ?_
    cases x <;> simp only [strip, cCode, reduceCtorEq] at hst
    · simp only [exec, Option.some.injEq, Prod.mk.injEq] at hx
      obtain ⟨rfl, rfl, rfl⟩ := hx
      exact wp_ret ⟨rfl, φ, he, Ext.refl _ _ _ _, hI, hdf, hn⟩
    · exact absurd rfl (hk _ _)
  | exit id =>
    refine codeSim_of fun bar T x ρ h e ρ' h' φ w a hk hb hx hst hd hl he hI hdf hn hF => ?_
    cases x <;> simp only [strip, cCode, reduceCtorEq, ACode.exit.injEq] at hst
    · subst hst
      simp only [exec, Option.some.injEq, Prod.mk.injEq] at hx
      obtain ⟨rfl, rfl, rfl⟩ := hx
      exact wp_exit ⟨rfl, φ, he, Ext.refl _ _ _ _, hI, hdf, hn⟩
    · exact absurd rfl (hk _ _)
  | goto l =>
    refine codeSim_of fun bar T x ρ h e ρ' h' φ w a hk hb hx hst hd hl he hI hdf hn hF => ?_
    cases x <;> simp only [strip, cCode, reduceCtorEq] at hst
    · exact absurd rfl (hk _ _)
    · simp [exec] at hx
  | scope b _ =>
    refine codeSim_of fun bar T x ρ h e ρ' h' φ w a hk hb hx hst hd hl he hI hdf hn hF => ?_
    cases x <;> simp only [strip, cCode, reduceCtorEq] at hst
    · exact absurd rfl (hk _ _)
    · simp [exec] at hx
  | refuse s =>
    refine codeSim_of fun bar T x ρ h e ρ' h' φ w a hk hb hx hst hd hl he hI hdf hn hF => ?_
    cases x <;> simp only [strip, cCode, reduceCtorEq] at hst
    · exact absurd rfl (hk _ _)
    · simp [exec] at hx
  | rangeFunc f ps x y _ _ =>
    refine codeSim_of fun bar T x ρ h e ρ' h' φ w a hk hb hx hst hd hl he hI hdf hn hF => ?_
    cases x <;> simp only [strip, cCode, reduceCtorEq] at hst
    · exact absurd rfl (hk _ _)
    · simp [exec] at hx
  | region id ops dr =>
    refine codeSim_of fun bar T x ρ h e ρ' h' φ w a hk hb hx hst hd hl he hI hdf hn hF => ?_
    simp only [cCode] at hst
    rcases cReg_inv (P := P) (ops := ops) (dr := dr) with ⟨os, h1, hok, hdraw⟩ | ⟨s, h1⟩
    · rw [h1] at hst
      cases x <;> simp only [strip, reduceCtorEq, ACode.reg.injEq] at hst
      · obtain ⟨rfl, rfl⟩ := hst
        simp only [exec] at hx
        obtain ⟨p, h2, h3⟩ := bnd_eq hx
        obtain ⟨p1, p2⟩ := p
        simp only [Option.some.injEq, Prod.mk.injEq] at h3
        obtain ⟨rfl, rfl, rfl⟩ := h3
        rename_i os dr
        have hD := okDst_at hd
        cases dr with
        | false =>
          refine wp_region ?_
          rw [List.range_eq_range']
          exact wpOps_text hL hS hK hok hb hD ops.size 0 ρ h φ w a (by omega) (by simpa using h2) he hl hI hF hn (fun a' w' φ' e1 e2 e3 e4 e5 => ⟨rfl, φ', e1, e2, e3, e4.trans hdf, by rw [e5]; exact hn⟩)
        | true =>
          obtain ⟨q1, q2, q3⟩ := hdraw rfl
          exact wp_draw hL hS hK hok hD hb hl q3 q1 q2 h2 he hI hF hn (fun a' w' φ' e1 e2 e3 e4 e5 => ⟨rfl, φ', e1, e2, e3, e4.trans hdf, by rw [e5]; exact hn⟩)
      · exact absurd rfl (hk _ _)
    · rw [h1] at hst
      cases x <;> simp only [strip, reduceCtorEq] at hst
      · exact absurd rfl (hk _ _)
      · simp [exec] at hx
  | seq c1 c2 ih1 ih2 =>
    refine codeSim_of fun bar T x ρ h e ρ' h' φ w a hk hb hx hst hd hl he hI hdf hn hF => ?_
    simp only [okDst, Bool.and_eq_true] at hd
    cases x <;> simp only [strip, cCode, reduceCtorEq, ACode.seq.injEq] at hst
    · rename_i x1 x2
      simp only [exec] at hx
      refine wp_seq ?_
      cases ha : exec A S bar T x1 ρ h with
      | none => rw [ha] at hx; simp at hx
      | some p =>
        obtain ⟨e1, ρ1, h1⟩ := p
        have k1 := exec_keep hK hb hl ha
        rw [ha] at hx
        cases e1 with
        | normal =>
          simp only [thn_normal] at hx
          have k2 := exec_keep hK hb k1.len hx
          refine wp_mono (ih1 bar T x1 ρ h _ ρ1 h1 φ w a hb ha hst.1 hd.1 hl he hI hdf hn (hF.left fun l i _ => k2.grow l i)) fun x1' a1 w1 hp => ?_
          obtain ⟨rfl, φ1, p1, p2, p3, p4, p5⟩ := hp
          refine wp_mono (ih2 bar T x2 ρ1 h1 e ρ' h' φ1 w1 a1 hb hx hst.2 hd.2 k1.len p1 p3 p4 p5 (hF.right p2)) fun x2' a2 w2 hq => ?_
          obtain ⟨rfl, φ2, q1, q2, q3, q4, q5⟩ := hq
          exact ⟨rfl, φ2, q1, p2.trans (fun l i r h => (p3.bnd l i r h).1) (fun l i r h => (q3.bnd l i r h).1) q2, q3, q4, q5⟩
        | exit m =>
          simp only [thn_exit, Option.some.injEq, Prod.mk.injEq] at hx
          obtain ⟨rfl, rfl, rfl⟩ := hx
          refine wp_mono (ih1 bar T x1 ρ h _ ρ1 h1 φ w a hb ha hst.1 hd.1 hl he hI hdf hn hF) fun x1' a1 w1 hp => ?_
          obtain ⟨rfl, hp⟩ := hp
          exact ⟨rfl, hp⟩
        | ret =>
          simp only [thn_ret, Option.some.injEq, Prod.mk.injEq] at hx
          obtain ⟨rfl, rfl, rfl⟩ := hx
          refine wp_mono (ih1 bar T x1 ρ h _ ρ1 h1 φ w a hb ha hst.1 hd.1 hl he hI hdf hn hF) fun x1' a1 w1 hp => ?_
          obtain ⟨rfl, hp⟩ := hp
          exact ⟨rfl, hp⟩
    · exact absurd rfl (hk _ _)
  | cond cc c1 c2 ih1 ih2 =>
    refine codeSim_of fun bar T x ρ h e ρ' h' φ w a hk hb hx hst hd hl he hI hdf hn hF => ?_
    simp only [okDst, Bool.and_eq_true] at hd
    simp only [cCode] at hst
    cases hc : cOpd cc with
    | none =>
      rw [hc] at hst
      cases x <;> simp only [strip, reduceCtorEq] at hst
      · exact absurd rfl (hk _ _)
      · simp [exec] at hx
    | some y =>
      rw [hc] at hst
      cases x <;> simp only [strip, reduceCtorEq, ACode.cond.injEq] at hst
      · rename_i y' x1 x2
        obtain ⟨rfl, hst1, hst2⟩ := hst
        simp only [exec] at hx
        obtain ⟨d, h1, hx1⟩ := bnd_eq hx
        obtain ⟨t, h2, hx2⟩ := bnd_eq hx1
        have hv := (opd_rep hc h1 he).asB_inv h2
        refine wp_cond (t := t) hv ?_
        rcases brk_eq hx2 with ⟨rfl, hx3⟩ | ⟨rfl, hx3⟩
        · exact ih1 bar T x1 ρ h e ρ' h' φ w a hb hx3 hst1 hd.1 hl he hI hdf hn hF
        · exact ih2 bar T x2 ρ h e ρ' h' φ w a hb hx3 hst2 hd.2 hl he hI hdf hn hF
      · exact absurd rfl (hk _ _)
  | block id c ih =>
    refine codeSim_of fun bar T x ρ h e ρ' h' φ w a hk hb hx hst hd hl he hI hdf hn hF => ?_
    simp only [okDst] at hd
    cases x <;> simp only [strip, cCode, reduceCtorEq, ACode.blk.injEq] at hst
    · rename_i id' x1
      obtain ⟨rfl, hst1⟩ := hst
      simp only [exec] at hx
      refine wp_block ?_
      cases ha : exec A S bar T x1 ρ h with
      | none => rw [ha] at hx; simp [inBlk] at hx
      | some p =>
        obtain ⟨e1, ρ1, h1⟩ := p
        rw [ha] at hx
        have go : h1 = h' → ρ1 = ρ' → (∀ a1 w1, Post T n (getO T h) φ w e ρ' h' (exitOf e) a1 w1 → Exit.inBlock id' (Post T n (getO T h) φ w e ρ' h') (exitOf e1) a1 w1) → c.wp P (Exit.inBlock id' (Post T n (getO T h) φ w e ρ' h')) a w := by
          rintro rfl rfl hg
          refine wp_mono (ih bar T x1 ρ h e1 ρ1 h1 φ w a hb ha hst1 hd hl he hI hdf hn hF) fun x' a1 w1 hp => ?_
          obtain ⟨rfl, hp⟩ := hp
          exact hg a1 w1 ⟨rfl, hp⟩
        cases e1 with
        | normal =>
          simp only [inBlk, Option.some.injEq, Prod.mk.injEq] at hx
          obtain ⟨rfl, rfl, rfl⟩ := hx
          exact go rfl rfl fun _ _ h => h
        | ret =>
          simp only [inBlk, Option.some.injEq, Prod.mk.injEq] at hx
          obtain ⟨rfl, rfl, rfl⟩ := hx
          exact go rfl rfl fun _ _ h => h
        | exit m =>
          simp only [inBlk] at hx
          rcases brk_eq hx with ⟨hm, hx1⟩ | ⟨hm, hx1⟩
          · simp only [Option.some.injEq, Prod.mk.injEq] at hx1
            obtain ⟨rfl, rfl, rfl⟩ := hx1
            simp only [beq_iff_eq] at hm; subst hm
            exact go rfl rfl fun a1 w1 hp => by simp only [exitOf, Exit.inBlock, if_true]; exact hp
          · simp only [Option.some.injEq, Prod.mk.injEq] at hx1
            obtain ⟨rfl, rfl, rfl⟩ := hx1
            simp only [beq_eq_false_iff_ne, ne_eq] at hm
            exact go rfl rfl fun a1 w1 hp => by simp only [exitOf, Exit.inBlock, hm, if_false]; exact hp
    · exact absurd rfl (hk _ _)
  | loop c ih =>
    refine codeSim_of fun bar T x ρ h e ρ' h' φ w a hk hb hx hst hd hl he hI hdf hn hF => ?_
    simp only [okDst] at hd
    cases x <;> simp only [strip, cCode, reduceCtorEq, ACode.loop.injEq] at hst
    · simp only [exec] at hx
      exact wp_loopWp (hLp bar T n _ ρ h e ρ' h' φ w a c hl hb hx hst hd he hI hdf hn hF)
    · exact absurd rfl (hk _ _)
end
end AM
/- Loops and calls: the whole simulation, by the depth of the run. -/
namespace AM
open Go

section
variable {P : Program} {A : Prog} {S : Mch} {bar T n : Nat}

theorem lpB_sim (hL : Links P A) (hS : CallSim P S) (hLp : LpSim P S) (hK : Keeps S) {b : ACode} {ρ ρ' : Env} {h h' : Heap} {e : Ex} {φ : Refs} {w : World} {a : Act} {c : Code} (hl : h.length = T) (hb : bar < T) (hs : lpB A S bar T b ρ h = some (e, ρ', h')) (hst : strip b = cCode P c)
    (hd : okDst n c = true) (he : EnvR φ w a ρ) (hI : Inv φ w T (getO T h)) (hdf : a.defers = []) (hn : n ≤ a.tmps.size) (hF : Fresh T φ (getO T h) (getO T h')) : LoopWp P c (Post T n (getO T h) φ w e ρ' h') a w := by
  unfold lpB at hs
  refine loopWp_of ?_
  cases ha : exec A S bar T b ρ h with
  | none => rw [ha] at hs; simp at hs
  | some p =>
    obtain ⟨e1, ρ1, h1⟩ := p
    have k1 := exec_keep hK hb hl ha
    rw [ha] at hs
    cases e1 with
    | normal =>
      simp only [thn_normal] at hs
      have k2 := hK.lp _ _ _ _ _ _ _ _ k1.len hb hs
      refine wp_mono (exec_sim hL hS hLp hK c bar T b ρ h _ ρ1 h1 φ w a hb ha hst hd hl he hI hdf hn (hF.left fun l i _ => k2.grow l i)) fun x1 a1 w1 hp => ?_
      obtain ⟨rfl, φ1, p1, p2, p3, p4, p5⟩ := hp
      intro b0 k0 cs0
      obtain ⟨e2, a2, w2, hq, harr⟩ := hLp bar T n b ρ1 h1 e ρ' h' φ1 w1 a1 c k1.len hb hs hst hd p1 p3 p4 p5 (hF.right p2) b0 k0 cs0
      obtain ⟨rfl, φ2, q1, q2, q3, q4, q5⟩ := hq
      exact ⟨_, a2, w2, ⟨rfl, φ2, q1, p2.trans (fun l i r h => (p3.bnd l i r h).1) (fun l i r h => (q3.bnd l i r h).1) q2, q3, q4, q5⟩, harr⟩
    | exit m =>
      simp only [thn_exit, Option.some.injEq, Prod.mk.injEq] at hs
      obtain ⟨rfl, rfl, rfl⟩ := hs
      refine wp_mono (exec_sim hL hS hLp hK c bar T b ρ h _ ρ1 h1 φ w a hb ha hst hd hl he hI hdf hn hF) fun x1 a1 w1 hp => ?_
      obtain ⟨rfl, hp⟩ := hp
      exact ⟨rfl, hp⟩
    | ret =>
      simp only [thn_ret, Option.some.injEq, Prod.mk.injEq] at hs
      obtain ⟨rfl, rfl, rfl⟩ := hs
      refine wp_mono (exec_sim hL hS hLp hK c bar T b ρ h _ ρ1 h1 φ w a hb ha hst hd hl he hI hdf hn hF) fun x1 a1 w1 hp => ?_
      obtain ⟨rfl, hp⟩ := hp
      exact ⟨rfl, hp⟩
end
end AM
/- What leaves a frame. -/
namespace AM
open Go

/-- The references below a level. -/
def cutR (T : Nat) (φ : Refs) : Refs := fun l i => if l < T then φ l i else none
theorem cutR_some {T l i : Nat} {φ : Refs} {r : Ref} (h : cutR T φ l i = some r) : l < T ∧ φ l i = some r := by
  unfold cutR at h
  split at h
  · exact ⟨by assumption, h⟩
  · cases h
theorem cutR_lt {T l i : Nat} {φ : Refs} (h : l < T) : cutR T φ l i = φ l i := by simp [cutR, h]

theorem frzAll_at {T : Nat} {h : Heap} {n : Nat} : ∀ {ds ds' : List D}, frz.frzAll T h n ds = some ds' → ds'.length = ds.length ∧ ∀ (i : Nat) (d' : D), ds'[i]? = some d' → ∃ d, ds[i]? = some d ∧ frz T h n d = some d'
  | [], ds', hf => by simp only [frz.frzAll, Option.some.injEq] at hf; subst hf; simp
  | d :: ds, ds', hf => by
    simp only [frz.frzAll] at hf
    obtain ⟨e, h1, hf1⟩ := bnd_eq hf
    obtain ⟨es, h2, hf2⟩ := bnd_eq hf1
    simp only [Option.some.injEq] at hf2; subst hf2
    obtain ⟨g1, g2⟩ := frzAll_at h2
    refine ⟨by simp [g1], fun i d' hd => ?_⟩
    cases i with
    | zero => simp at hd; subst hd; exact ⟨d, rfl, h1⟩
    | succ i => simpa using g2 i d' (by simpa using hd)

theorem frzEs_at {T : Nat} {h : Heap} {n : Nat} : ∀ {es r : List (List D)}, frz.frzEs T h n es = some r → r.length = es.length ∧ ∀ (i : Nat) (c' : List D), r[i]? = some c' → ∃ c, es[i]? = some c ∧ frz.frzAll T h n c = some c' ∧ D.lvl.lvlAll c' = 0
  | [], r, hf => by simp only [frz.frzEs, Option.some.injEq] at hf; subst hf; simp
  | c :: es, r, hf => by
    simp only [frz.frzEs] at hf
    obtain ⟨e, h1, hf1⟩ := bnd_eq hf
    obtain ⟨hz, hf2⟩ := brk_none hf1
    obtain ⟨rs, h2, hf3⟩ := bnd_eq hf2
    simp only [Option.some.injEq] at hf3; subst hf3
    obtain ⟨g1, g2⟩ := frzEs_at h2
    refine ⟨by simp [g1], fun i d' hd => ?_⟩
    cases i with
    | zero => simp at hd; subst hd; exact ⟨c, rfl, h1, by simpa using hz⟩
    | succ i => simpa using g2 i d' (by simpa using hd)

theorem frz_one {T : Nat} {h : Heap} : ∀ {n : Nat} {d d' : D}, frz T h n d = some d' → d.one = true → d'.one = true
  | 0, d, d', hf, _ => by simp [frz] at hf
  | n + 1, d, d', hf, h1 => by
    cases d <;> simp only [frz] at hf
    case own l i off len sz lim =>
      rcases brk_eq hf with ⟨_, hf1⟩ | ⟨_, hf1⟩
      · obtain ⟨_, _, hf2⟩ := bnd_eq hf1
        obtain ⟨_, _, hf3⟩ := bnd_eq hf2
        obtain ⟨_, hf4⟩ := brk_none hf3
        obtain ⟨_, _, hf5⟩ := bnd_eq hf4
        cases hf5; rfl
      · cases hf1; rfl
    case ptr => obtain ⟨_, hf1⟩ := brk_none hf; cases hf1; rfl
    case map => obtain ⟨_, hf1⟩ := brk_none hf; cases hf1; rfl
    case fn =>
      obtain ⟨_, _, hf1⟩ := bnd_eq hf
      obtain ⟨_, _, hf2⟩ := bnd_eq hf1
      cases hf2; rfl
    case ifc => obtain ⟨_, _, hf1⟩ := bnd_eq hf; cases hf1; rfl
    case agg => cases h1
    case tup => cases h1
    all_goals (cases hf; first | rfl | exact h1)

theorem frz_rep {T : Nat} {h : Heap} {φ : Refs} {w : World} (hI : Inv φ w (T + 1) (getO (T + 1) h)) : ∀ {n : Nat} {d d' : D} {v : Value}, frz (T + 1) h n d = some d' → Rep φ w v d → Rep (cutR T φ) w v d'
  | 0, d, d', v, hf, _ => by simp [frz] at hf
  | n + 1, d, d', v, hf, hr => by
    have himm : ∀ {b}, Imm φ w b → Imm (cutR T φ) w b := fun hb => ⟨hb.1, fun l i r h => hb.2 l i r (cutR_some h).2⟩
    have hall : ∀ {cs : Array Value} {ds ds' : List D}, frz.frzAll (T + 1) h n ds = some ds' → (∀ (i : Nat) (v : Value) (d : D), cs[i]? = some v → ds[i]? = some d → Rep φ w v d) → ∀ (i : Nat) (v : Value) (d : D), cs[i]? = some v → ds'[i]? = some d → Rep (cutR T φ) w v d := by
      intro cs ds ds' hf hr i v d hv hd
      obtain ⟨d0, g1, g2⟩ := (frzAll_at hf).2 i d hd
      exact frz_rep hI g2 (hr i v d0 hv g1)
    have hcut : ∀ {v d}, Rep φ w v d → d.lvl ≤ T → Rep (cutR T φ) w v d := fun hr hl => hr.mono (fun l i r hlt h => by rw [cutR_lt hlt]; exact h) (fun b hb => ⟨rfl, himm hb⟩) hl
    cases d <;> simp only [frz] at hf
    case own l i off len sz lim =>
      rcases brk_eq hf with ⟨hq, hf1⟩ | ⟨hq, hf1⟩
      · obtain ⟨ob, h1, hf2⟩ := bnd_eq hf1
        obtain ⟨es, h2, hf3⟩ := bnd_eq hf2
        obtain ⟨hle, hf4⟩ := brk_none hf3
        obtain ⟨rs, h3, hf5⟩ := bnd_eq hf4
        have := asArr_eq h2; subst this
        simp only [decide_eq_true_eq] at hle
        have hlT : l = T := by simpa using hq
        simp only [Option.some.injEq] at hf5; subst hf5
        obtain ⟨g1, g2⟩ := frzEs_at h3
        have hlen : rs.length = len := by rw [g1]; simp; omega
        cases hr with
        | own l i off len cap sz lim r ad hφ hsz k1 k2 k3 k4 =>
          rcases Nat.eq_zero_or_pos len with hz | hz
          · have : rs = [] := List.eq_nil_of_length_eq_zero (by omega)
            subst this; subst hz; exact .slE _ _
          · have had := k4 (by omega)
            subst had
            have hsrc : ∀ (e : Nat) (cs : List D) (j : Nat) (d : D), rs[e]? = some cs → cs[j]? = some d → ∃ v d0, w.cell? ⟨r.blk, r.base + off * r.size + (e * r.size + j), none⟩ = some v ∧ Rep φ w v d0 ∧ frz (T + 1) h n d0 = some d ∧ d0.one = true := by
              intro e cs j d hcs hd
              obtain ⟨c0, q1, q2, _⟩ := g2 e cs hcs
              obtain ⟨d0, q3, q4⟩ := (frzAll_at q2).2 j d hd
              rw [List.getElem?_take] at q1
              split at q1
              · rw [List.getElem?_drop] at q1
                obtain ⟨o1, o2, o3⟩ := obj_cells hI hφ h1 q1
                obtain ⟨v, f1, f2⟩ := o3 j d0 q3
                refine ⟨v, d0, ?_, f2, q4, o1 d0 (List.mem_of_getElem? q3)⟩
                rw [← f1]; congr 2; rw [Nat.add_mul]; omega
              · cases q1
            refine .sl r.blk (r.base + off * r.size) len cap r.size rs (fun k => (w.cell? ⟨r.blk, r.base + off * r.size + k, none⟩).getD undef) hlen k3 ?_ ?_ ?_ ?_ ?_ ?_
            · refine ⟨(hI.bnd _ _ _ hφ).2, fun l' i' r' h' => ?_⟩
              obtain ⟨q1, q2⟩ := cutR_some h'
              exact hI.lev _ _ _ _ _ _ q2 hφ (by omega)
            · refine lvlEs_zero fun cs hcs => ?_
              obtain ⟨e, he⟩ := List.mem_iff_getElem?.1 hcs
              obtain ⟨_, _, _, q⟩ := g2 e cs he; exact q
            · intro cs hcs
              obtain ⟨e, he⟩ := List.mem_iff_getElem?.1 hcs
              obtain ⟨c0, q1, q2, _⟩ := g2 e cs he
              rw [(frzAll_at q2).1]
              rw [List.getElem?_take] at q1
              split at q1
              · rw [List.getElem?_drop] at q1
                exact (obj_cells hI hφ h1 q1).2.1
              · cases q1
            · intro cs hcs d hd
              obtain ⟨e, he⟩ := List.mem_iff_getElem?.1 hcs
              obtain ⟨j, hj⟩ := List.mem_iff_getElem?.1 hd
              obtain ⟨v, d0, _, _, q3, q4⟩ := hsrc e cs j d he hj
              exact frz_one q3 q4
            · intro e cs j d hcs hd
              obtain ⟨v, d0, q1, _⟩ := hsrc e cs j d hcs hd
              simp [q1]
            · intro e cs j d hcs hd
              obtain ⟨v, d0, q1, q2, q3, _⟩ := hsrc e cs j d hcs hd
              simp only [q1, Option.getD_some]
              exact frz_rep hI q3 q2
      · cases hf1
        refine hcut hr ?_
        cases hr with
        | own l i off len cap sz lim r ad hφ => have := (hI.bnd _ _ _ hφ).1; simp at hq; simp [D.lvl]; omega
    case nil => cases hf; cases hr; exact .slE _ _
    case ptr l i e j => obtain ⟨hq, hf1⟩ := brk_none hf; cases hf1; refine hcut hr ?_; simp at hq; simp [D.lvl]; omega
    case map l i => obtain ⟨hq, hf1⟩ := brk_none hf; cases hf1; refine hcut hr ?_; simp at hq; simp [D.lvl]; omega
    case agg cs =>
      obtain ⟨rs, h1, hf1⟩ := bnd_eq hf
      cases hf1
      cases hr with
      | agg vs _ l1 o1 r1 =>
        refine .agg vs rs (by rw [(frzAll_at h1).1]; exact l1) (fun d hd => ?_) (hall h1 r1)
        obtain ⟨j, hj⟩ := List.mem_iff_getElem?.1 hd
        obtain ⟨d0, q1, q2⟩ := (frzAll_at h1).2 j d hj
        exact frz_one q2 (o1 d0 (List.mem_of_getElem? q1))
    case tup cs =>
      obtain ⟨rs, h1, hf1⟩ := bnd_eq hf
      cases hf1
      cases hr with
      | tup vs _ l1 r1 => exact .tup vs rs (by rw [(frzAll_at h1).1]; exact l1) (hall h1 r1)
    case fn f x y =>
      obtain ⟨rs, h1, hf1⟩ := bnd_eq hf
      obtain ⟨ts, h2, hf2⟩ := bnd_eq hf1
      cases hf2
      cases hr with
      | fn _ fs cs _ _ l1 l2 r1 r2 => exact .fn f fs cs rs ts (by rw [(frzAll_at h1).1]; exact l1) (by rw [(frzAll_at h2).1]; exact l2) (hall h1 r1) (hall h2 r2)
    case ifc t e =>
      obtain ⟨e', h1, hf1⟩ := bnd_eq hf
      cases hf1
      cases hr with
      | ifc _ v _ r1 => exact .ifc t v e' (frz_rep hI h1 r1)
    all_goals (cases hf; exact hcut hr (by simp [D.lvl]))
end AM
/- Calls, and the whole simulation by the depth of the run. -/
namespace AM
open Go

theorem lk_argEnv : ∀ {ds : List D} {k t : Nat} {d : D}, lk (argEnv ds k) t = some d → k ≤ t ∧ ds[t - k]? = some d
  | [], k, t, d, h => by simp [argEnv, lk] at h
  | e :: ds, k, t, d, h => by
    simp only [argEnv, lk] at h
    by_cases q : k = t
    · subst q
      simp only [beq_self_eq_true, brk_true, Option.some.injEq] at h
      exact ⟨Nat.le_refl _, by simp [h]⟩
    · have : (k == t) = false := by simpa using q
      simp only [this, brk_false] at h
      obtain ⟨g1, g2⟩ := lk_argEnv h
      refine ⟨by omega, ?_⟩
      rw [show t - k = (t - (k + 1)) + 1 by omega]
      simpa using g2

section
variable {P : Program} {A : Prog} {S : Mch} {bar T n : Nat} {φ : Refs} {w : World} {a : Act} {ρ : Env} {h : Heap}

/-- The results, one after another. -/
def resF (tmps : Array Value) : ResultVar → Sem Value
  | .tmp t => pure (tmps.getD t undef)
  | .cell a t => do loadVar t (← asAddr (tmps.getD a undef))

theorem resL_run (hI : Inv φ w T (getO T h)) (he : EnvR φ w a ρ) : ∀ {l : List ResultVar} {rs : List ARes} {ds : List D}, cRes P l = some rs → resD T ρ h rs = some ds → ∃ vs : List Value, (l.mapM (resF a.tmps)).run P w = .ok vs w ∧ vs.length = ds.length ∧ ∀ (i : Nat) (v : Value) (d : D), vs[i]? = some v → ds[i]? = some d → Rep φ w v d
  | [], rs, ds, hc, hd => by
    simp only [cRes, Option.some.injEq] at hc; subst hc
    simp only [resD, Option.some.injEq] at hd; subst hd
    exact ⟨[], by simp, rfl, by simp⟩
  | x :: l, rs, ds, hc, hd => by
    have key : ∀ {rs' : List ARes} {ds' : List D} {d0 : D}, cRes P l = some rs' → resD T ρ h rs' = some ds' → ds = d0 :: ds' → (∃ v0, (resF a.tmps x).run P w = .ok v0 w ∧ Rep φ w v0 d0) →
        ∃ vs : List Value, ((x :: l).mapM (resF a.tmps)).run P w = .ok vs w ∧ vs.length = ds.length ∧ ∀ (i : Nat) (v : Value) (d : D), vs[i]? = some v → ds[i]? = some d → Rep φ w v d := by
      intro rs' ds' d0 h1 h2 h3 h4
      obtain ⟨vs, g1, g2, g3⟩ := resL_run hI he h1 h2
      obtain ⟨v0, g4, g5⟩ := h4
      refine ⟨v0 :: vs, ?_, ?_, ?_⟩
      · simp only [List.mapM_cons, Sem.run_bind, g4, Result.andThen_ok, g1, Sem.run_pure]
      · rw [h3]; simp [g2]
      · intro i v d hv hd
        rw [h3] at hd
        cases i with
        | zero => simp at hv hd; subst hv; subst hd; exact g5
        | succ i => exact g3 i v d (by simpa using hv) (by simpa using hd)
    cases x with
    | tmp t =>
      simp only [cRes, Option.map_eq_some_iff] at hc
      obtain ⟨rs', h1, rfl⟩ := hc
      simp only [resD] at hd
      obtain ⟨d0, h2, hd1⟩ := bnd_eq hd
      obtain ⟨ds', h3, hd2⟩ := bnd_eq hd1
      simp only [Option.some.injEq] at hd2
      obtain ⟨v0, e1, e2⟩ := he t d0 h2
      exact key h1 h3 hd2.symm ⟨v0, by simp [resF, e1], e2⟩
    | cell t ty =>
      simp only [cRes] at hc
      split at hc
      · rename_i m rs' h0 h1
        simp only [Option.some.injEq] at hc; subst hc
        simp only [resD] at hd
        obtain ⟨p, h2, hd1⟩ := bnd_eq hd
        obtain ⟨d0, h4, hd2⟩ := bnd_eq hd1
        obtain ⟨ds', h3, hd3⟩ := bnd_eq hd2
        simp only [Option.some.injEq] at hd3
        obtain ⟨u, e1, e2⟩ := he t p h2
        obtain ⟨v0, f1, f2⟩ := ld_run (P := P) h0 hI e2 h4
        refine key h1 h3 hd3.symm ⟨v0, ?_, f2⟩
        have hu : ∃ ad, u = .pointer (some ad) := by
          cases e2 <;> first | (exact ⟨_, rfl⟩) | (simp [ldD] at h4; done)
        obtain ⟨ad, rfl⟩ := hu
        simp only [Instr.loadAt, Instr.sureAddr, pure_bind] at f1
        simp only [resF, Array.getD_eq_getD_getElem?, e1, Option.getD_some, asAddr, pure_bind]
        exact f1
      · cases hc

theorem results_run {g : Func} {rs : List ARes} {ds : List D} (hI : Inv φ w T (getO T h)) (he : EnvR φ w a ρ) (hc : cRes P g.results.toList = some rs) (hd : resD T ρ h rs = some ds) : ∃ v, (results g a.tmps).run P w = .ok v w ∧ Rep φ w v (tupD ds) := by
  obtain ⟨vs, h1, h2, h3⟩ := resL_run hI he hc hd
  have hm : (g.results.mapM (resF a.tmps)).run P w = .ok vs.toArray w := by
    rw [Array.mapM_eq_mapM_toList]
    simp only [map_eq_pure_bind, Sem.run_bind, h1, Result.andThen_ok, Sem.run_pure]
  have hr : results g a.tmps = (do let vs ← g.results.mapM (resF a.tmps); pure (if h : vs.size = 1 then vs[0] else .tuple vs)) := rfl
  rw [hr]
  simp only [Sem.run_bind, hm, Result.andThen_ok, Sem.run_pure]
  refine ⟨_, rfl, ?_⟩
  cases ds with
  | nil =>
    obtain rfl := List.eq_nil_of_length_eq_zero h2
    exact .tup #[] [] rfl (by simp)
  | cons d ds =>
    cases ds with
    | nil =>
      obtain ⟨v, vs', rfl⟩ := List.exists_cons_of_length_eq_add_one h2
      have : vs' = [] := List.eq_nil_of_length_eq_zero (by simpa using h2)
      subst this
      exact h3 0 v d rfl rfl
    | cons d2 ds =>
      have hne : ¬ (vs.toArray.size = 1) := by simp [h2]
      rw [dif_neg hne]
      exact .tup vs.toArray _ (by simpa using h2) (fun i v d hv hd => h3 i v d (by simpa using hv) hd)
end
end AM
/- Calls, and the whole simulation by the depth of the run. -/
namespace AM
open Go

section
variable {P : Program} {A : Prog} {S : Mch} {bar T : Nat} {φ : Refs} {w : World} {h h' : Heap} {d : D}

theorem cFun_inv {g : Func} {c : ACode} {rs : List ARes} (h : cFun P g = some (c, rs)) : ∃ b, g.body = some b ∧ cRes P g.results.toList = some rs ∧ okDst g.ntmps b = true ∧ c = cCode P b := by
  unfold cFun at h
  split at h
  · rename_i b rs' h1 h2
    split at h
    · rename_i hd
      simp only [Option.some.injEq, Prod.mk.injEq] at h
      obtain ⟨rfl, rfl⟩ := h
      exact ⟨b, h1, h2, hd, rfl⟩
    · cases h
  · cases h

/-- A new frame. -/
theorem push_live {l i : Nat} (hl : l < T) : Live (getO (T + 1) ([] :: h)) l i ↔ Live (getO T h) l i := by
  unfold Live; rw [getO_push [] hl]
theorem push_inv (hI : Inv φ w T (getO T h)) : Inv φ w (T + 1) (getO (T + 1) ([] :: h)) where
  bnd l i r hr := ⟨by have := (hI.bnd l i r hr).1; omega, (hI.bnd l i r hr).2⟩
  lev := hI.lev
  inj l i r i' r' g1 g2 v1 v2 hne := hI.inj l i r i' r' g1 g2 ((push_live (hI.bnd l i r g1).1).1 v1) ((push_live (hI.bnd l i r g1).1).1 v2) hne
  obj l i r o hr hc := by rw [getO_push [] (hI.bnd l i r hr).1] at hc; exact hI.obj l i r o hr hc

/-- The frame goes. -/
theorem ObjOk.cut {l : Nat} {r : Ref} {o : Obj} (hl : l < T) (h : ObjOk φ w l r o) : ObjOk (cutR T φ) w l r o := by
  have hcut : ∀ {v d}, Rep φ w v d → d.lvl ≤ T → Rep (cutR T φ) w v d := fun hr hl => hr.mono (fun l i r hlt h => by rw [cutR_lt hlt]; exact h) (fun b hb => ⟨rfl, hb.1, fun l i r h => hb.2 l i r (cutR_some h).2⟩) hl
  cases o with
  | dead => trivial
  | arr es =>
    obtain ⟨c, ty, g1, g2, g3, g4, g5, g6, g7⟩ := h
    refine ⟨c, ty, g1, g2, g3, g4, g5, g6, fun e cs j d h1 h2 => ?_⟩
    obtain ⟨v, f1, f2⟩ := g7 e cs j d h1 h2
    refine ⟨v, f1, hcut f2 ?_⟩
    have := lvl_mem (List.mem_of_getElem? h1) (List.mem_of_getElem? h2); omega
  | map es =>
    obtain ⟨ents, clock, g1, g2, g3, g4⟩ := h
    refine ⟨ents, clock, g1, g2, g3, fun i e p h1 h2 => ?_⟩
    obtain ⟨f1, f2⟩ := g4 i e p h1 h2
    have := g3 p (List.mem_of_getElem? h2)
    exact ⟨hcut f1 (by omega), hcut f2 (by omega)⟩

theorem pop_inv {f : List Obj} {r1 : Heap} (hI : Inv φ w (T + 1) (getO (T + 1) (f :: r1))) : Inv (cutR T φ) w T (getO T r1) where
  bnd l i r hr := ⟨(cutR_some hr).1, (hI.bnd l i r (cutR_some hr).2).2⟩
  lev l i r l' i' r' g1 g2 := hI.lev l i r l' i' r' (cutR_some g1).2 (cutR_some g2).2
  inj l i r i' r' g1 g2 v1 v2 hne := by
    have hl := (cutR_some g1).1
    refine hI.inj l i r i' r' (cutR_some g1).2 (cutR_some g2).2 ?_ ?_ hne
    · unfold Live at v1 ⊢; rw [getO_push f hl]; exact v1
    · unfold Live at v2 ⊢; rw [getO_push f hl]; exact v2
  obj l i r o hr hc := by
    have hl := (cutR_some hr).1
    rw [← getO_push f hl] at hc
    exact (hI.obj l i r o (cutR_some hr).2 hc).cut hl

theorem pop_ext {f : List Obj} {r1 : Heap} {φ1 : Refs} {w1 : World} (hI : Inv φ w T (getO T h)) (he : Ext (T + 1) (getO (T + 1) ([] :: h)) φ w (getO (T + 1) (f :: r1)) φ1 w1) : Ext T (getO T h) φ w (getO T r1) (cutR T φ1) w1 where
  os := he.os
  tape := he.tape
  output := he.output
  size := he.size
  ref l i r hr := by rw [cutR_lt (hI.bnd l i r hr).1]; exact he.ref l i r hr
  keep b hlt hn := he.keep b hlt fun l i r hr hb hv => hn l i r hr hb ((push_live (hI.bnd l i r hr).1).1 hv)
  new l i r hr := by
    obtain ⟨hl, hr1⟩ := cutR_some hr
    rcases he.new l i r hr1 with h1 | ⟨h0, hn, hc, h1⟩
    · exact .inl h1
    · rw [getO_push [] hl] at hn
      rw [getO_push f hl] at hc
      refine .inr ⟨h0, hn, hc, ?_⟩
      rcases h1 with h1 | ⟨i', r', g1, g2, g3⟩
      · exact .inl h1
      · exact .inr ⟨i', r', g1, g2, (push_live hl).1 g3⟩
  live l i r hr hv := by
    have hl := (hI.bnd l i r hr).1
    refine (push_live hl).1 (he.live l i r hr ?_)
    unfold Live at hv ⊢; rw [getO_push f hl]; exact hv
  grow l i hl hs := by
    have := he.grow l i (by omega) (by rw [getO_push [] hl]; exact hs)
    rwa [getO_push f hl] at this

theorem callB_sim (hL : Links P A) (hS : CallSim P S) (hLp : LpSim P S) (hK : Keeps S) {f : FuncId} {ds : List D} {vs : Array Value} (hl : h.length = T) (hb : bar ≤ T) (hs : callB A S bar T f ds h = some (d, h')) (hI : Inv φ w T (getO T h)) (ha : Args φ w vs ds)
    (hF : Fresh T φ (getO T h) (getO T h')) : CallTo P T (getO T h) φ w f vs h' d := by
  unfold callB at hs
  split at hs
  · rename_i o ho
    obtain ⟨r, h1, hs1⟩ := bnd_eq hs
    obtain ⟨rfl, rfl⟩ := some_pair hs1
    obtain ⟨v, g1, g2⟩ := hL.orc f o ho φ w vs ds _ ha h1
    exact .inr ⟨v, w, φ, g1, g2, Ext.refl _ _ _ _, hI⟩
  · obtain ⟨fn, hfn, hs1⟩ := bnd_eq hs
    obtain ⟨g, hg, hname, hcf⟩ := hL.fn f fn hfn
    obtain ⟨b, hbody, hres, hd, hst⟩ := cFun_inv hcf
    have hcall : (callFunc f vs).run P w = .ok (.enter f vs) w := by
      simp only [callFunc, Sem.run_bind, run_program, Result.andThen_ok, hg, hname, hbody, Option.isNone_some, Bool.false_eq_true, if_false, Sem.run_pure]
    refine .inl ⟨hcall, calls_of_wp hg hbody ?_⟩
    have henv : EnvR φ w { tmps := vs ++ Array.replicate (g.ntmps - vs.size) undef, defers := [] } (argEnv ds 0) := by
      intro t e ht
      obtain ⟨_, g2⟩ := lk_argEnv ht
      rw [Nat.sub_zero] at g2
      have hlt := lt_of_at g2
      have hlt2 : t < vs.size := by rw [ha.1]; exact hlt
      refine ⟨vs[t], ?_, ha.2 t _ e (Array.getElem?_eq_getElem hlt2) g2⟩
      show (vs ++ Array.replicate (g.ntmps - vs.size) undef)[t]? = _
      rw [Array.getElem?_append_left hlt2, Array.getElem?_eq_getElem hlt2]
    have hsize : g.ntmps ≤ (vs ++ Array.replicate (g.ntmps - vs.size) undef).size := by simp; omega
    rcases brk_eq hs1 with ⟨htr, hs2⟩ | ⟨htr, hs2⟩
    · obtain ⟨hlt, hs3⟩ := brk_none hs2
      simp only [decide_eq_true_eq] at hlt
      obtain ⟨e, ρ1, h1, rs, q1, q2, q3, q4⟩ := endD_eq hs3
      rcases q4 with ⟨_, rfl, rfl⟩ | ⟨hf, _, _⟩
      · refine wp_mono (exec_sim (n := g.ntmps) hL hS hLp hK b bar T fn.body _ h e ρ1 h' φ w _ hlt q1 hst hd hl henv hI rfl hsize hF) fun x a1 w1 hp => ?_
        obtain ⟨rfl, φ1, p1, p2, p3, p4, p5⟩ := hp
        obtain ⟨v, r1, r2⟩ := results_run (g := g) p3 p1 hres q3
        rcases q2 with rfl | rfl <;> exact ⟨p4, v, r1, v, φ1, rfl, r2, p2, p3⟩
      · cases hf
    · obtain ⟨e, ρ1, h1, rs, q1, q2, q3, q4⟩ := endD_eq hs2
      rcases q4 with ⟨hf, _, _⟩ | ⟨_, q4, rfl⟩
      · cases hf
      · have k := exec_keep hK (T := T + 1) (bar := bar) (by omega) (by simp [hl]) q1
        cases h1 with
        | nil => have := k.len; simp at this
        | cons f1 r1 =>
          have hF1 : Fresh (T + 1) φ (getO (T + 1) ([] :: h)) (getO (T + 1) (f1 :: r1)) := by
            intro l i hlt g1 g2
            by_cases hlT : l = T
            · subst hlT
              cases hq : φ l i with
              | none => rfl
              | some r => have := (hI.bnd l i r hq).1; omega
            · have hlt' : l < T := by omega
              rw [getO_push [] hlt'] at g1
              rw [getO_push f1 hlt'] at g2
              exact hF l i hlt' g1 g2
          refine wp_mono (exec_sim (n := g.ntmps) hL hS hLp hK b bar (T + 1) fn.body _ ([] :: h) e ρ1 (f1 :: r1) φ w _ (by omega) q1 hst hd (by simp [hl]) henv (push_inv hI) rfl hsize hF1) fun x a1 w1 hp => ?_
          obtain ⟨rfl, φ1, p1, p2, p3, p4, p5⟩ := hp
          obtain ⟨v, e1, e2⟩ := results_run (g := g) p3 p1 hres q3
          rcases q2 with rfl | rfl <;> exact ⟨p4, v, e1, v, cutR T φ1, rfl, frz_rep p3 q4 e2, pop_ext hI p2, pop_inv p3⟩

theorem iter_sim (hL : Links P A) : ∀ n, CallSim P (iter A n) ∧ LpSim P (iter A n)
  | 0 => ⟨fun _ _ _ _ _ _ _ _ _ _ _ _ h => (by cases h), fun _ _ _ _ _ _ _ _ _ _ _ _ _ _ _ h => (by cases h)⟩
  | n + 1 => ⟨fun _ _ _ _ _ _ _ _ _ _ hl hb hs hI ha hF => callB_sim hL (iter_sim hL n).1 (iter_sim hL n).2 (iter_keeps A n) hl hb hs hI ha hF,
    fun _ _ _ _ _ _ _ _ _ _ _ _ _ hl hb hs hst hd he hI hdf hn hF => lpB_sim hL (iter_sim hL n).1 (iter_sim hL n).2 (iter_keeps A n) hl hb hs hst hd he hI hdf hn hF⟩
end
end AM
/- Runs of any depth: a fixed point, and back to a depth. -/
namespace AM
open Go

section
variable {A : Prog}

/-- One machine answers wherever another does, and alike. -/
structure Le (S S' : Mch) : Prop where
  call : ∀ bar T f ds h r, S.call bar T f ds h = some r → S'.call bar T f ds h = some r
  lp : ∀ bar T b ρ h r, S.lp bar T b ρ h = some r → S'.lp bar T b ρ h = some r

theorem Le.refl (S : Mch) : Le S S := ⟨fun _ _ _ _ _ _ h => h, fun _ _ _ _ _ _ h => h⟩
theorem Le.trans {S S1 S2 : Mch} (a : Le S S1) (b : Le S1 S2) : Le S S2 := ⟨fun _ _ _ _ _ _ h => b.call _ _ _ _ _ _ (a.call _ _ _ _ _ _ h), fun _ _ _ _ _ _ h => b.lp _ _ _ _ _ _ (a.lp _ _ _ _ _ _ h)⟩

variable {S S' : Mch} {bar T : Nat}

theorem callFn_le (hl : Le S S') {g : Fn} {args cap : List D} {h : Heap} {r : D × Heap} (hs : callFn A S bar T g args cap h = some r) : callFn A S' bar T g args cap h = some r := by
  unfold callFn at hs ⊢
  split at hs
  · exact hl.call _ _ _ _ _ _ hs
  · split at hs
    · obtain ⟨f, h1, h2⟩ := bnd_eq hs
      simp only [h1, bnd_some]
      exact hl.call _ _ _ _ _ _ h2
    · cases hs
  · cases hs

theorem opD_le (hl : Le S S') {o : AOp} {ρ : Env} {h : Heap} {r : D × Heap} (hs : opD A S bar T o ρ h = some r) : opD A S' bar T o ρ h = some r := by
  cases o
  case call f args b =>
    simp only [opD] at hs ⊢
    obtain ⟨fd, h1, hs1⟩ := bnd_eq hs
    obtain ⟨ds, h2, hs2⟩ := bnd_eq hs1
    simp only [h1, h2, bnd_some]
    unfold callDD at hs2 ⊢
    split at hs2
    · exact callFn_le hl hs2
    · cases hs2
  case inv x name args b =>
    simp only [opD] at hs ⊢
    obtain ⟨fd, h1, hs1⟩ := bnd_eq hs
    obtain ⟨ds, h2, hs2⟩ := bnd_eq hs1
    simp only [h1, h2, bnd_some]
    unfold invDD at hs2 ⊢
    split at hs2
    · obtain ⟨f, h3, h4⟩ := bnd_eq hs2
      simp only [h3, bnd_some]
      exact hl.call _ _ _ _ _ _ h4
    · cases hs2
  all_goals (simp only [opD] at hs ⊢; exact hs)

theorem opsD_le (hl : Le S S') : ∀ {os : List AOper} {ρ : Env} {h : Heap} {r : Env × Heap}, opsD A S bar T os ρ h = some r → opsD A S' bar T os ρ h = some r
  | [], ρ, h, r, hs => hs
  | o :: os, ρ, h, r, hs => by
    simp only [opsD] at hs ⊢
    obtain ⟨b, h1, hs1⟩ := bnd_eq hs
    simp only [h1, bnd_some]
    cases b with
    | true =>
      simp only [brk_true] at hs1 ⊢
      obtain ⟨p, h2, hs2⟩ := bnd_eq hs1
      simp only [opD_le hl h2, bnd_some]
      exact opsD_le hl hs2
    | false => simp only [brk_false] at hs1 ⊢; exact opsD_le hl hs1

theorem exec_le (hl : Le S S') : ∀ {c : ACode} {ρ : Env} {h : Heap} {r}, exec A S bar T c ρ h = some r → exec A S' bar T c ρ h = some r
  | .skip, ρ, h, r, hs => hs
  | .exit id, ρ, h, r, hs => hs
  | .ret, ρ, h, r, hs => hs
  | .bad _, ρ, h, r, hs => hs
  | .reg os dr, ρ, h, r, hs => by
    simp only [exec] at hs ⊢
    obtain ⟨p, h1, h2⟩ := bnd_eq hs
    simp only [opsD_le hl h1, bnd_some]; exact h2
  | .loop b, ρ, h, r, hs => hl.lp _ _ _ _ _ _ hs
  | .kp ks c, ρ, h, r, hs => by
    simp only [exec] at hs ⊢
    obtain ⟨p, h1, h2⟩ := bnd_eq hs
    simp only [h1, bnd_some]; exact exec_le hl h2
  | .cond c x y, ρ, h, r, hs => by
    simp only [exec] at hs ⊢
    obtain ⟨p, h1, h2⟩ := bnd_eq hs
    obtain ⟨t, h3, h4⟩ := bnd_eq h2
    simp only [h1, h3, bnd_some]
    cases t with
    | true => simp only [brk_true] at h4 ⊢; exact exec_le hl h4
    | false => simp only [brk_false] at h4 ⊢; exact exec_le hl h4
  | .seq a b, ρ, h, r, hs => by
    simp only [exec] at hs ⊢
    cases ha : exec A S bar T a ρ h with
    | none => rw [ha] at hs; simp at hs
    | some p =>
      obtain ⟨e1, ρ1, h1⟩ := p
      rw [ha] at hs
      rw [exec_le hl ha]
      cases e1 with
      | normal => simp only [thn_normal] at hs ⊢; exact exec_le hl hs
      | exit n => exact hs
      | ret => exact hs
  | .blk id b, ρ, h, r, hs => by
    simp only [exec] at hs ⊢
    cases ha : exec A S bar T b ρ h with
    | none => rw [ha] at hs; simp [inBlk] at hs
    | some p => rw [ha] at hs; rw [exec_le hl ha]; exact hs

theorem endD_le {T : Nat} {res : List ARes} {tr : Bool} {x y : Option (Ex × Env × Heap)} {r : D × Heap} (h : ∀ p, x = some p → y = some p) (hs : endD T res tr x = some r) : endD T res tr y = some r := by
  cases x with
  | none => simp [endD] at hs
  | some p => rw [h p rfl]; exact hs

theorem callB_le (hl : Le S S') {f : FuncId} {ds : List D} {h : Heap} {r : D × Heap} (hs : callB A S bar T f ds h = some r) : callB A S' bar T f ds h = some r := by
  unfold callB at hs ⊢
  split at hs
  · exact hs
  · obtain ⟨fn, h1, h2⟩ := bnd_eq hs
    simp only [h1, bnd_some]
    cases hq : fn.tr with
    | true =>
      rw [hq] at h2
      simp only [brk_true] at h2 ⊢
      obtain ⟨h3, h4⟩ := brk_none h2
      rw [h3]
      exact endD_le (fun p hp => exec_le hl hp) h4
    | false =>
      rw [hq] at h2
      simp only [brk_false] at h2 ⊢
      exact endD_le (fun p hp => exec_le hl hp) h2

theorem lpB_le (hl : Le S S') {b : ACode} {ρ : Env} {h : Heap} {r} (hs : lpB A S bar T b ρ h = some r) : lpB A S' bar T b ρ h = some r := by
  unfold lpB at hs ⊢
  cases ha : exec A S bar T b ρ h with
  | none => rw [ha] at hs; simp at hs
  | some p =>
    obtain ⟨e1, ρ1, h1⟩ := p
    rw [ha] at hs
    rw [exec_le hl ha]
    cases e1 with
    | normal => simp only [thn_normal] at hs ⊢; exact hl.lp _ _ _ _ _ _ hs
    | exit n => exact hs
    | ret => exact hs

theorem iter_succ (A : Prog) : ∀ n, Le (iter A n) (iter A (n + 1))
  | 0 => ⟨fun _ _ _ _ _ _ h => (by cases h), fun _ _ _ _ _ _ h => (by cases h)⟩
  | n + 1 => ⟨fun _ _ _ _ _ _ h => callB_le (iter_succ A n) h, fun _ _ _ _ _ _ h => lpB_le (iter_succ A n) h⟩
theorem iter_le (A : Prog) (n : Nat) : ∀ m, Le (iter A n) (iter A (n + m))
  | 0 => Le.refl _
  | m + 1 => (iter_le A n m).trans (iter_succ A (n + m))
end
end AM
/- The limit of the runs of bounded depth is a fixed point. -/
namespace AM
open Go

section
open Classical in
/-- What some depth answers. -/
noncomputable def lim (A : Prog) : Mch where
  call bar T f ds h := if x : ∃ r, ∃ n, (iter A n).call bar T f ds h = some r then some (choose x) else none
  lp bar T b ρ h := if x : ∃ r, ∃ n, (iter A n).lp bar T b ρ h = some r then some (choose x) else none

variable {A : Prog} {bar T : Nat}

theorem iter_at {n m : Nat} (h : n ≤ m) : Le (iter A n) (iter A m) := by
  have := iter_le A n (m - n)
  rwa [show n + (m - n) = m by omega] at this

theorem lim_call {f : FuncId} {ds : List D} {h : Heap} {r : D × Heap} : (lim A).call bar T f ds h = some r ↔ ∃ n, (iter A n).call bar T f ds h = some r := by
  simp only [lim]
  by_cases x : ∃ r, ∃ n, (iter A n).call bar T f ds h = some r
  · rw [dif_pos x]
    obtain ⟨n, hn⟩ := Classical.choose_spec x
    constructor
    · intro e
      simp only [Option.some.injEq] at e
      exact ⟨n, by rw [hn, e]⟩
    · rintro ⟨m, hm⟩
      have h1 := (iter_at (A := A) (Nat.le_max_left n m)).call _ _ _ _ _ _ hn
      have h2 := (iter_at (A := A) (Nat.le_max_right n m)).call _ _ _ _ _ _ hm
      rw [h1] at h2; exact h2
  · rw [dif_neg x]
    exact ⟨fun e => (by cases e), fun ⟨n, hn⟩ => absurd ⟨r, n, hn⟩ x⟩

theorem lim_lp {b : ACode} {ρ : Env} {h : Heap} {r : Ex × Env × Heap} : (lim A).lp bar T b ρ h = some r ↔ ∃ n, (iter A n).lp bar T b ρ h = some r := by
  simp only [lim]
  by_cases x : ∃ r, ∃ n, (iter A n).lp bar T b ρ h = some r
  · rw [dif_pos x]
    obtain ⟨n, hn⟩ := Classical.choose_spec x
    constructor
    · intro e
      simp only [Option.some.injEq] at e
      exact ⟨n, by rw [hn, e]⟩
    · rintro ⟨m, hm⟩
      have h1 := (iter_at (A := A) (Nat.le_max_left n m)).lp _ _ _ _ _ _ hn
      have h2 := (iter_at (A := A) (Nat.le_max_right n m)).lp _ _ _ _ _ _ hm
      rw [h1] at h2; exact h2
  · rw [dif_neg x]
    exact ⟨fun e => (by cases e), fun ⟨n, hn⟩ => absurd ⟨r, n, hn⟩ x⟩

theorem iter_lim (n : Nat) : Le (iter A n) (lim A) := ⟨fun _ _ _ _ _ _ h => lim_call.2 ⟨n, h⟩, fun _ _ _ _ _ _ h => lim_lp.2 ⟨n, h⟩⟩

theorem callFn_lim {g : Fn} {args cap : List D} {h : Heap} {r : D × Heap} (hs : callFn A (lim A) bar T g args cap h = some r) : ∃ n, callFn A (iter A n) bar T g args cap h = some r := by
  unfold callFn at hs ⊢
  split at hs
  · exact lim_call.1 hs
  · split at hs
    · obtain ⟨f, h1, h2⟩ := bnd_eq hs
      simp only [h1, bnd_some]
      exact lim_call.1 h2
    · cases hs
  · cases hs

theorem opD_lim {o : AOp} {ρ : Env} {h : Heap} {r : D × Heap} (hs : opD A (lim A) bar T o ρ h = some r) : ∃ n, opD A (iter A n) bar T o ρ h = some r := by
  cases o
  case call f args b =>
    simp only [opD] at hs ⊢
    obtain ⟨fd, h1, hs1⟩ := bnd_eq hs
    obtain ⟨ds, h2, hs2⟩ := bnd_eq hs1
    simp only [h1, h2, bnd_some]
    unfold callDD at hs2 ⊢
    split at hs2
    · exact callFn_lim hs2
    · cases hs2
  case inv x name args b =>
    simp only [opD] at hs ⊢
    obtain ⟨fd, h1, hs1⟩ := bnd_eq hs
    obtain ⟨ds, h2, hs2⟩ := bnd_eq hs1
    simp only [h1, h2, bnd_some]
    unfold invDD at hs2 ⊢
    split at hs2
    · obtain ⟨f, h3, h4⟩ := bnd_eq hs2
      simp only [h3, bnd_some]
      exact lim_call.1 h4
    · cases hs2
  all_goals (simp only [opD] at hs ⊢; exact ⟨0, hs⟩)

theorem opsD_lim : ∀ {os : List AOper} {ρ : Env} {h : Heap} {r : Env × Heap}, opsD A (lim A) bar T os ρ h = some r → ∃ n, opsD A (iter A n) bar T os ρ h = some r
  | [], ρ, h, r, hs => ⟨0, hs⟩
  | o :: os, ρ, h, r, hs => by
    simp only [opsD] at hs ⊢
    obtain ⟨b, h1, hs1⟩ := bnd_eq hs
    simp only [h1, bnd_some]
    cases b with
    | true =>
      simp only [brk_true] at hs1 ⊢
      obtain ⟨p, h2, hs2⟩ := bnd_eq hs1
      obtain ⟨n, hn⟩ := opD_lim h2
      obtain ⟨m, hm⟩ := opsD_lim hs2
      refine ⟨max n m, ?_⟩
      simp only [opD_le (iter_at (Nat.le_max_left n m)) hn, bnd_some]
      exact opsD_le (iter_at (Nat.le_max_right n m)) hm
    | false => simp only [brk_false] at hs1 ⊢; exact opsD_lim hs1
end
end AM
/- The limit is a fixed point. -/
namespace AM
open Go

section
variable {A : Prog} {bar T : Nat}

theorem exec_lim : ∀ {c : ACode} {ρ : Env} {h : Heap} {r}, exec A (lim A) bar T c ρ h = some r → ∃ n, exec A (iter A n) bar T c ρ h = some r
  | .skip, ρ, h, r, hs => ⟨0, hs⟩
  | .exit id, ρ, h, r, hs => ⟨0, hs⟩
  | .ret, ρ, h, r, hs => ⟨0, hs⟩
  | .bad _, ρ, h, r, hs => ⟨0, hs⟩
  | .reg os dr, ρ, h, r, hs => by
    simp only [exec] at hs ⊢
    obtain ⟨p, h1, h2⟩ := bnd_eq hs
    obtain ⟨n, hn⟩ := opsD_lim h1
    exact ⟨n, by simp only [hn, bnd_some]; exact h2⟩
  | .loop b, ρ, h, r, hs => lim_lp.1 hs
  | .kp ks c, ρ, h, r, hs => by
    simp only [exec] at hs ⊢
    obtain ⟨p, h1, h2⟩ := bnd_eq hs
    obtain ⟨n, hn⟩ := exec_lim h2
    exact ⟨n, by simp only [h1, bnd_some]; exact hn⟩
  | .cond c x y, ρ, h, r, hs => by
    simp only [exec] at hs ⊢
    obtain ⟨p, h1, h2⟩ := bnd_eq hs
    obtain ⟨t, h3, h4⟩ := bnd_eq h2
    simp only [h1, h3, bnd_some]
    cases t with
    | true => simp only [brk_true] at h4 ⊢; exact exec_lim h4
    | false => simp only [brk_false] at h4 ⊢; exact exec_lim h4
  | .seq a b, ρ, h, r, hs => by
    simp only [exec] at hs ⊢
    cases ha : exec A (lim A) bar T a ρ h with
    | none => rw [ha] at hs; simp at hs
    | some p =>
      obtain ⟨e1, ρ1, h1⟩ := p
      rw [ha] at hs
      obtain ⟨n, hn⟩ := exec_lim ha
      cases e1 with
      | normal =>
        simp only [thn_normal] at hs
        obtain ⟨m, hm⟩ := exec_lim hs
        refine ⟨max n m, ?_⟩
        rw [exec_le (iter_at (Nat.le_max_left n m)) hn]
        exact exec_le (iter_at (Nat.le_max_right n m)) hm
      | exit k => exact ⟨n, by rw [hn]; exact hs⟩
      | ret => exact ⟨n, by rw [hn]; exact hs⟩
  | .blk id b, ρ, h, r, hs => by
    simp only [exec] at hs ⊢
    cases ha : exec A (lim A) bar T b ρ h with
    | none => rw [ha] at hs; simp [inBlk] at hs
    | some p =>
      obtain ⟨n, hn⟩ := exec_lim ha
      rw [ha] at hs
      exact ⟨n, by rw [hn]; exact hs⟩

theorem endD_lim {T' : Nat} {res : List ARes} {tr : Bool} {c : ACode} {ρ : Env} {h : Heap} {r : D × Heap} (hs : endD T' res tr (exec A (lim A) bar T c ρ h) = some r) : ∃ n, endD T' res tr (exec A (iter A n) bar T c ρ h) = some r := by
  cases ha : exec A (lim A) bar T c ρ h with
  | none => rw [ha] at hs; simp [endD] at hs
  | some p =>
    obtain ⟨n, hn⟩ := exec_lim ha
    rw [ha] at hs
    exact ⟨n, by rw [hn]; exact hs⟩

theorem callB_lim {f : FuncId} {ds : List D} {h : Heap} {r : D × Heap} (hs : callB A (lim A) bar T f ds h = some r) : ∃ n, callB A (iter A n) bar T f ds h = some r := by
  unfold callB at hs ⊢
  split at hs
  · exact ⟨0, hs⟩
  · obtain ⟨fn, h1, h2⟩ := bnd_eq hs
    simp only [h1, bnd_some]
    cases hq : fn.tr with
    | true =>
      rw [hq] at h2
      simp only [brk_true] at h2 ⊢
      obtain ⟨h3, h4⟩ := brk_none h2
      simp only [h3, brk_true]
      exact endD_lim h4
    | false =>
      rw [hq] at h2
      simp only [brk_false] at h2 ⊢
      exact endD_lim h2

theorem lpB_lim {b : ACode} {ρ : Env} {h : Heap} {r} (hs : lpB A (lim A) bar T b ρ h = some r) : ∃ n, lpB A (iter A n) bar T b ρ h = some r := by
  unfold lpB at hs ⊢
  cases ha : exec A (lim A) bar T b ρ h with
  | none => rw [ha] at hs; simp at hs
  | some p =>
    obtain ⟨e1, ρ1, h1⟩ := p
    rw [ha] at hs
    obtain ⟨n, hn⟩ := exec_lim ha
    cases e1 with
    | normal =>
      simp only [thn_normal] at hs
      obtain ⟨m, hm⟩ := lim_lp.1 hs
      refine ⟨max n m, ?_⟩
      rw [exec_le (iter_at (Nat.le_max_left n m)) hn]
      exact (iter_at (Nat.le_max_right n m)).lp _ _ _ _ _ _ hm
    | exit k => exact ⟨n, by rw [hn]; exact hs⟩
    | ret => exact ⟨n, by rw [hn]; exact hs⟩

theorem opt_ext {α : Type} {x y : Option α} (h1 : ∀ r, x = some r → y = some r) (h2 : ∀ r, y = some r → x = some r) : x = y := by
  cases hx : x with
  | some r => exact (h1 r hx).symm
  | none =>
    cases hy : y with
    | none => rfl
    | some r => rw [h2 r hy] at hx; cases hx

theorem lim_fix (A : Prog) : Fix A (lim A) where
  call bar T f ds h := opt_ext (fun r hr => by
      obtain ⟨n, hn⟩ := lim_call.1 hr
      cases n with
      | zero => cases hn
      | succ n => exact callB_le (iter_lim n) hn) (fun r hr => by
      obtain ⟨n, hn⟩ := callB_lim hr
      exact lim_call.2 ⟨n + 1, hn⟩)
  lp bar T b ρ h := opt_ext (fun r hr => by
      obtain ⟨n, hn⟩ := lim_lp.1 hr
      cases n with
      | zero => cases hn
      | succ n => exact lpB_le (iter_lim n) hn) (fun r hr => by
      obtain ⟨n, hn⟩ := lpB_lim hr
      exact lim_lp.2 ⟨n + 1, hn⟩)

/-- What a call comes to, from a fixed point's answer. -/
theorem lim_sim {P : Program} (hL : Links P A) : CallSim P (lim A) := by
  intro bar T f ds h d h' φ w vs hl hb hs hI ha hF
  obtain ⟨n, hn⟩ := lim_call.1 hs
  exact (iter_sim hL n).1 bar T f ds h d h' φ w vs hl hb hn hI ha hF
end
end AM
/- Arguments of a law: what is trod reads as data by value. -/
namespace AM
open Go

/-- Types of numbers, strings, and slices, structs and arrays of these; the fields lie one behind the other. -/
def tileF (P : Program) (g : TypeId → Bool) : List Field → Nat → Option Nat
  | [], off => some off
  | f :: r, off => if f.offset = off ∧ g f.type = true then tileF P g r (off + P.cellsOf f.type) else none
def plainT (P : Program) : Nat → TypeId → Bool
  | 0, _ => false
  | n + 1, t => match P.underlying t with
    | some .bool | some (.int _) | some .string => P.cellsOf t == 1
    | some (.slice e) => P.cellsOf t == 1 && (P.cellsOf e != 0 && plainT P n e)
    | some (.struct fs) => tileF P (plainT P n) fs.toList 0 == some (P.cellsOf t)
    | some (.array k e) => plainT P n e && P.cellsOf t == k * P.cellsOf e
    | _ => false

/-- Rows of cells, one behind the other. -/
def HasFs (g : TypeId → List D → Prop) : List Field → List D → Prop
  | [], ds => ds = []
  | f :: r, ds => ∃ a b, ds = a ++ b ∧ g f.type a ∧ HasFs g r b
/-- The cells of a type's data. -/
def HasC (P : Program) : Nat → TypeId → List D → Prop
  | 0, _, _ => False
  | n + 1, t, ds => match P.underlying t with
    | some .bool => ∃ b, ds = [.bool b]
    | some (.int k) => ∃ v, ds = [.int k v] ∧ k.min ≤ v ∧ v ≤ k.max
    | some .string => ∃ s, ds = [.str s] ∧ s.length ≤ 140737488351232
    | some (.slice e) => ∃ es, ds = [.sl es] ∧ es.length * P.bytesOf e ≤ 140737488351232 ∧ es.length ≤ 9223372036854775807 ∧ ∀ c ∈ es, HasC P n e c
    | some (.struct fs) => HasFs (HasC P n) fs.toList ds
    | some (.array k e) => ∃ es : List (List D), es.length = k ∧ ds = es.flatten ∧ ∀ c ∈ es, HasC P n e c
    | _ => False

def noR : Refs := fun _ _ => none

theorem list_of {α : Type} {p : Nat → α → Prop} : ∀ (n : Nat), (∀ i, i < n → ∃ x, p i x) → ∃ l : List α, l.length = n ∧ ∀ (i : Nat) (x : α), l[i]? = some x → p i x
  | 0, _ => ⟨[], rfl, by simp⟩
  | n + 1, h => by
    obtain ⟨l, h1, h2⟩ := list_of n fun i hi => h i (by omega)
    obtain ⟨x, hx⟩ := h n (by omega)
    refine ⟨l ++ [x], by simp [h1], fun i y hy => ?_⟩
    rcases Nat.lt_or_ge i l.length with hi | hi
    · rw [List.getElem?_append_left hi] at hy; exact h2 i y hy
    · rw [List.getElem?_append_right hi] at hy
      have : i - l.length = 0 := by have := lt_of_at hy; simp at this; omega
      rw [this] at hy
      simp at hy; subst hy
      rw [show i = n by omega]; exact hx

section
variable {P : Program} {W : World} {H : Type} {enc : TypeId × Value → H}

theorem RowC.nil' : RowC noR W [] [] := ⟨rfl, by simp, by simp⟩
theorem RowC.one' {v : Value} {d : D} (h : Rep noR W v d) (h1 : d.one = true) : RowC noR W [v] [d] := ⟨rfl, by simpa using h1, fun i u e hu he => by
  cases i with
  | zero => simp at hu he; subst hu; subst he; exact h
  | succ i => simp at hu⟩
theorem RowC.append' {a b : List Value} {c d : List D} (h1 : RowC noR W a c) (h2 : RowC noR W b d) : RowC noR W (a ++ b) (c ++ d) := by
  refine ⟨by simp [h1.1, h2.1], fun e he => ?_, fun i u e hu he => ?_⟩
  · rcases List.mem_append.1 he with h | h
    · exact h1.2.1 e h
    · exact h2.2.1 e h
  · rcases Nat.lt_or_ge i a.length with hi | hi
    · rw [List.getElem?_append_left hi] at hu
      rw [List.getElem?_append_left (by have := h1.1; omega)] at he
      exact h1.2.2 i u e hu he
    · rw [List.getElem?_append_right hi] at hu
      rw [List.getElem?_append_right (by have := h1.1; omega)] at he
      rw [← h1.1] at he
      exact h2.2.2 _ u e hu he

theorem RowC.lvl {a : List Value} {c : List D} (h : RowC noR W a c) : D.lvl.lvlAll c = 0 :=
  lvlAll_zero.2 fun d hd => by
    obtain ⟨i, hi⟩ := List.mem_iff_getElem?.1 hd
    have hlt := lt_of_at hi
    have := (h.2.2 i _ d (List.getElem?_eq_getElem (by have := h.1; omega)) hi).lvl_le (T := 0) (fun l i r h => by cases h)
    omega

/-- What a type's reading comes to, given that of what it is made of. -/
def ReadsAt (P : Program) (W : World) (enc : TypeId × Value → H) (n : Nat) (t : TypeId) : Prop := ∀ (fuel : Nat) (cs : List Value) (x : DataW H × List MemPlace), DataW.trod enc P W 0 (fun _ => true) true fuel t cs = some x →
  (x.1.weights P t).all (· ≤ reachBytes) = true → ∃ ds, RowC noR W cs ds ∧ HasC P n t ds ∧ ds.length = P.cellsOf t

theorem fields_read {n fuel : Nat} : ∀ {l : List Field} {off total : Nat} {xs : List (DataW H × List MemPlace)} {cs : List Value}, tileF P (plainT P n) l off = some total → (∀ t, plainT P n t = true → ReadsAt P W enc n t) → total ≤ cs.length →
    xs.length = l.length → (∀ (i : Nat) (f : Field), l[i]? = some f → DataW.trod enc P W 0 (fun _ => true) true fuel f.type ((cs.drop f.offset).take (P.cellsOf f.type)) = xs[i]?) → (DataW.weightsEach P (l.map (·.type)) (xs.map (·.1))).all (· ≤ reachBytes) = true →
    off ≤ total ∧ ∃ ds, RowC noR W ((cs.drop off).take (total - off)) ds ∧ HasFs (HasC P n) l ds ∧ ds.length = total - off
  | [], off, total, xs, cs, ht, ih, hle, hl, hx, hw => by
    simp only [tileF, Option.some.injEq] at ht; subst ht
    exact ⟨Nat.le_refl _, [], by simpa using RowC.nil', rfl, by simp⟩
  | f :: l, off, total, xs, cs, ht, ih, hle, hl, hx, hw => by
    simp only [tileF] at ht
    split at ht
    · rename_i hq
      obtain ⟨h1, h2⟩ := hq
      obtain ⟨x, xs, rfl⟩ := List.exists_cons_of_length_eq_add_one hl
      simp only [List.map_cons, DataW.weightsEach, List.all_append, Bool.and_eq_true] at hw
      obtain ⟨g1, ds, g2, g3, g4⟩ := fields_read (xs := xs) ht ih hle (by simpa using hl) (fun i f' hf => by simpa using hx (i + 1) f' (by simpa using hf)) hw.2
      have h0 := hx 0 f rfl
      rw [h1] at h0
      obtain ⟨a, q1, q2, q3⟩ := ih f.type h2 fuel _ x (by simpa using h0) hw.1
      refine ⟨by omega, a ++ ds, ?_, ⟨a, ds, rfl, q2, g3⟩, by simp [q3, g4]; omega⟩
      have := q1.append' g2
      have e1 : (cs.drop off).take (P.cellsOf f.type) ++ (cs.drop (off + P.cellsOf f.type)).take (total - (off + P.cellsOf f.type)) = (cs.drop off).take (total - off) := by
        rw [← List.drop_drop, ← List.take_add]
        congr 1; omega
      rwa [e1] at this
    · cases ht
end
end AM
/- What is trod reads as data by value. -/
namespace AM
open Go

section
variable {P : Program} {W : World} {H : Type} {enc : TypeId × Value → H}

theorem cells_at {base : Nat} {a : Addr} {n : Nat} {cs : List Value} (h : W.cells? base a n = some cs) : cs.length = n ∧ ∀ (i : Nat) (v : Value), cs[i]? = some v → W.cell? (a.add i) = some v := by
  unfold World.cells? at h
  split at h
  · refine ⟨by simpa using mapM_some_length h, fun i v hv => ?_⟩
    have hi := lt_of_at hv
    have hlen := mapM_some_length h
    simp at hlen
    have := mapM_some_get h i i (List.getElem?_range (by omega))
    rw [this]; exact hv
  · cases h

theorem weightsAll_at {e : TypeId} {ds : List (DataW H)} (h : (DataW.weightsAll P e ds).all (· ≤ reachBytes) = true) : ∀ (i : Nat) (d : DataW H), ds[i]? = some d → (d.weights P e).all (· ≤ reachBytes) = true := by
  induction ds with
  | nil => intro i d hd; simp at hd
  | cons x ds ih =>
    simp only [DataW.weightsAll, List.all_append, Bool.and_eq_true] at h
    intro i d hd
    cases i with
    | zero => simp at hd; subst hd; exact h.1
    | succ i => exact ih h.2 i d (by simpa using hd)

theorem flatten_rows {sz : Nat} {cs : List Value} : ∀ {es : List (List D)} {off : Nat}, (∀ (i : Nat) (c : List D), es[i]? = some c → RowC noR W ((cs.drop (off + i * sz)).take sz) c ∧ c.length = sz) → off + es.length * sz ≤ cs.length → RowC noR W ((cs.drop off).take (es.length * sz)) es.flatten
  | [], off, _, _ => by simpa using RowC.nil'
  | c :: es, off, h, hle => by
    simp only [List.length_cons, Nat.add_mul, Nat.one_mul] at hle ⊢
    obtain ⟨h1, h2⟩ := h 0 c rfl
    have ih := flatten_rows (es := es) (off := off + sz) (fun i d hd => by
      have := h (i + 1) d (by simpa using hd)
      rwa [show off + (i + 1) * sz = off + sz + i * sz by rw [Nat.add_mul]; omega] at this) (by omega)
    have := h1.append' ih
    simp only [Nat.zero_mul, Nat.add_zero] at this
    have e1 : (cs.drop off).take sz ++ (cs.drop (off + sz)).take (es.length * sz) = (cs.drop off).take (es.length * sz + sz) := by
      rw [← List.drop_drop, ← List.take_add]
      congr 1; omega
    rw [e1] at this
    exact this

theorem flatten_len {sz : Nat} : ∀ {es : List (List D)}, (∀ c ∈ es, c.length = sz) → es.flatten.length = es.length * sz
  | [], _ => by simp
  | c :: es, h => by
    simp only [List.flatten_cons, List.length_append, List.length_cons, Nat.add_mul, Nat.one_mul]
    rw [flatten_len fun d hd => h d (by simp [hd]), h c (by simp)]; omega

theorem trod_reads : ∀ (n : Nat) (t : TypeId), plainT P n t = true → ReadsAt P W enc n t
  | 0, t, h => by cases h
  | n + 1, t, h => by
    intro fuel cs x hx hw
    simp only [plainT] at h
    split at h
    · rename_i hu
      obtain ⟨b, rfl, rfl⟩ := DataW.trod_bool hu hx
      refine ⟨[.bool b], RowC.one' (.bool b) rfl, ?_, by simpa using (beq_iff_eq.1 h).symm⟩
      simp only [HasC, hu]; exact ⟨b, rfl⟩
    · rename_i k hu
      obtain ⟨v, rfl, rfl, hwf⟩ := DataW.trod_int hu hx
      refine ⟨[.int k v], RowC.one' (.int k v) rfl, ?_, by simpa using (beq_iff_eq.1 h).symm⟩
      simp only [HasC, hu]
      simp only [Lit.wf, Bool.and_eq_true, decide_eq_true_eq] at hwf
      exact ⟨v, rfl, hwf.1, hwf.2⟩
    · rename_i hu
      obtain ⟨s, rfl, rfl, hs⟩ := DataW.trod_string hu hx
      have hr : Rep noR W (.string s) (.str s.data.toList) := by
        have := Rep.str (φ := noR) (w := W) s.data.toList
        rwa [Array.toArray_toList] at this
      refine ⟨[.str s.data.toList], RowC.one' hr rfl, ?_, by simpa using (beq_iff_eq.1 h).symm⟩
      simp only [HasC, hu]
      refine ⟨_, rfl, ?_⟩
      have hw' : s.data.toList.length ≤ reachBytes := by simpa [DataW.weights] using hw
      unfold reachBytes at hw'; omega
    · rename_i e hu
      simp only [Bool.and_eq_true, beq_iff_eq, bne_iff_ne, ne_eq] at h
      obtain ⟨h1, h2, h3⟩ := h
      have ih := trod_reads n e h3
      rcases DataW.trod_slice hu hx with ⟨rfl, rfl⟩ | ⟨a, len, cap, elems, rest, m, rfl, rfl, rfl, hb, hlc, hcm, hel, hat, _, _⟩
      · refine ⟨[.sl []], RowC.one' (.slE _ _) rfl, ?_, by simp [h1]⟩
        simp only [HasC, hu]
        exact ⟨[], rfl, by simp, by simp, by simp⟩
      · simp only [DataW.weights, hu, List.all_cons, List.all_append, Bool.and_eq_true, decide_eq_true_eq] at hw
        obtain ⟨w1, w2, w3⟩ := hw
        have hex : ∀ i, i < len → ∃ c : List D, ∃ ci, W.cells? 0 (a.add (i * P.cellsOf e)) (P.cellsOf e) = some ci ∧ RowC noR W ci c ∧ HasC P n e c ∧ c.length = P.cellsOf e := by
          intro i hi
          have hlt : i < elems.length := by omega
          have h4 := hat i hi
          rw [List.getElem?_eq_getElem hlt, Option.bind_eq_some_iff] at h4
          obtain ⟨ci, h5, h6⟩ := h4
          obtain ⟨ds, q1, q2, q3⟩ := ih m ci elems[i] h6 (weightsAll_at w2 i _ (by simp [hlt]))
          exact ⟨ds, ci, h5, q1, q2, q3⟩
        obtain ⟨es, hes, hesat⟩ := list_of len hex
        have hone : ∀ (i : Nat) (c : List D), es[i]? = some c → c.length = P.cellsOf e := fun i c hc => by obtain ⟨_, _, _, _, q⟩ := hesat i c hc; exact q
        have hmem : ∀ c ∈ es, HasC P n e c := fun c hc => by
          obtain ⟨i, hi⟩ := List.mem_iff_getElem?.1 hc
          obtain ⟨_, _, _, q, _⟩ := hesat i c hi; exact q
        have hbytes : es.length * P.bytesOf e ≤ 140737488351232 := by
          have : len * P.bytesOf e ≤ (elems.length + rest.length) * P.bytesOf e := Nat.mul_le_mul_right _ (by omega)
          simp only [List.length_map] at w1
          rw [hes]; unfold reachBytes at w1; omega
        refine ⟨[.sl es], RowC.one' ?_ rfl, ?_, by simp [h1]⟩
        · rcases Nat.eq_zero_or_pos len with hz | hz
          · subst hz
            have : es = [] := List.eq_nil_of_length_eq_zero hes
            subst this; exact .slE _ _
          · have hpos : 0 < P.cellsOf e := Nat.pos_of_ne_zero h2
            have hcell : ∀ (i : Nat) (c : List D) (j : Nat) (d : D), es[i]? = some c → c[j]? = some d → ∃ v, W.cell? ((a.add (i * P.cellsOf e)).add j) = some v ∧ Rep noR W v d := by
              intro i c j d hc hd
              obtain ⟨ci, q1, q2, q3, q4⟩ := hesat i c hc
              obtain ⟨r1, r2⟩ := cells_at q1
              have hj : j < ci.length := by rw [r1, ← q4]; exact lt_of_at hd
              exact ⟨ci[j], r2 j _ (List.getElem?_eq_getElem hj), q2.2.2 j _ d (List.getElem?_eq_getElem hj) hd⟩
            obtain ⟨c0, hc0⟩ : ∃ c0, es[0]? = some c0 := ⟨es[0]'(by omega), List.getElem?_eq_getElem (by omega)⟩
            have hl0 := hone 0 c0 hc0
            obtain ⟨v0, hv0, _⟩ := hcell 0 c0 0 (c0[0]'(by omega)) hc0 (List.getElem?_eq_getElem (by omega))
            simp only [Nat.zero_mul, Addr.add, if_true] at hv0
            have hspot := World.cell?_spot hv0
            obtain ⟨b, o, sp⟩ := a
            simp only at hspot; subst hspot
            have hblt : b < W.heap.size := by
              unfold World.cell? at hv0
              cases hq : W.heap[b]? with
              | none => simp [hq] at hv0
              | some ob => exact (Array.getElem?_eq_some_iff.1 hq).1
            refine .sl b o len cap (P.cellsOf e) es (fun k => (W.cell? ⟨b, o + k, none⟩).getD undef) hes hlc ⟨hblt, fun l i r h => by cases h⟩ ?_ ?_ ?_ ?_ ?_
            · refine lvlEs_zero fun c hc => ?_
              obtain ⟨i, hi⟩ := List.mem_iff_getElem?.1 hc
              obtain ⟨_, _, q, _, _⟩ := hesat i c hi
              exact q.lvl
            · intro c hc
              obtain ⟨i, hi⟩ := List.mem_iff_getElem?.1 hc
              exact hone i c hi
            · intro c hc
              obtain ⟨i, hi⟩ := List.mem_iff_getElem?.1 hc
              obtain ⟨_, _, q, _, _⟩ := hesat i c hi
              exact q.2.1
            · intro i c j d hc hd
              obtain ⟨v, q1, q2⟩ := hcell i c j d hc hd
              rw [add_at, add_at, Nat.add_assoc] at q1
              simp [q1]
            · intro i c j d hc hd
              obtain ⟨v, q1, q2⟩ := hcell i c j d hc hd
              rw [add_at, add_at, Nat.add_assoc] at q1
              simpa [q1] using q2
        · simp only [HasC, hu]
          refine ⟨es, rfl, hbytes, ?_, hmem⟩
          unfold maxLen at hcm; omega
    · rename_i fs hu
      obtain ⟨xs, m, rfl, rfl, hcl, hxl, hat⟩ := DataW.trod_struct hu hx
      simp only [DataW.weights, hu] at hw
      have ht : tileF P (plainT P n) fs.toList 0 = some (P.cellsOf t) := by simpa using h
      obtain ⟨_, ds, q1, q2, q3⟩ := fields_read (xs := xs) (cs := cs) ht (fun t h => trod_reads n t h) (by omega) (by simpa using hxl) (fun i f hf => hat i f (by simpa using hf)) hw
      refine ⟨ds, ?_, ?_, by simpa using q3⟩
      · simpa [List.take_of_length_le (Nat.le_of_eq hcl)] using q1
      · simp only [HasC, hu]; exact q2
    · rename_i k e hu
      simp only [Bool.and_eq_true, beq_iff_eq] at h
      have ih := trod_reads n e h.1
      obtain ⟨xs, m, rfl, rfl, hcl, hxl, hat⟩ := DataW.trod_array hu hx
      simp only [DataW.weights, hu] at hw
      have hex : ∀ i, i < k → ∃ c : List D, RowC noR W ((cs.drop (i * P.cellsOf e)).take (P.cellsOf e)) c ∧ HasC P n e c ∧ c.length = P.cellsOf e := by
        intro i hi
        have hlt : i < xs.length := by omega
        have h4 := hat i hi
        rw [List.getElem?_eq_getElem hlt] at h4
        exact ih m _ xs[i] h4 (weightsAll_at hw i _ (by simp [hlt]))
      obtain ⟨es, hes, hesat⟩ := list_of k hex
      have hfl := flatten_len (sz := P.cellsOf e) (es := es) (fun c hc => by
        obtain ⟨i, hi⟩ := List.mem_iff_getElem?.1 hc
        exact (hesat i c hi).2.2)
      refine ⟨es.flatten, ?_, ?_, by rw [hfl, hes, h.2]⟩
      · have := flatten_rows (W := W) (sz := P.cellsOf e) (cs := cs) (es := es) (off := 0) (fun i c hc => by rw [Nat.zero_add]; exact ⟨(hesat i c hc).1, (hesat i c hc).2.2⟩) (by rw [hes, hcl, h.2]; omega)
        rw [hes, ← h.2, ← hcl] at this
        simpa using this
      · simp only [HasC, hu]
        exact ⟨es, hes, rfl, fun c hc => by
          obtain ⟨i, hi⟩ := List.mem_iff_getElem?.1 hc
          exact (hesat i c hi).2.1⟩
    · cases h
end
end AM
/- The row of a law, from the abstract machine's answer. -/
namespace AM
open Go Go.ChangeShapes Go.WideShapes Go.RowKit

/-- The datum of an argument. -/
def HasArg (P : Program) (n : Nat) (t : TypeId) (d : D) : Prop := ∃ cs, HasC P n t cs ∧
  match P.underlying t with
  | some (.struct _) | some (.array _ _) => d = .agg cs
  | _ => cs = [d]
def HasArgs (P : Program) (n : Nat) : List TypeId → List D → Prop
  | [], [] => True
  | t :: ts, d :: ds => HasArg P n t d ∧ HasArgs P n ts ds
  | _, _ => False

section
variable {P : Program} {W : World} {H : Type} {enc : TypeId × Value → H} {base : Nat}

theorem arg_read {n : Nat} {t : TypeId} (hp : plainT P n t = true) {v : Value} (hv : Value.okWide P W .any base t v) {d : DataW H} {ps : List MemPlace} (h : DataW.Trod enc P W 0 (fun _ => true) true t v d ps)
    (hw : (d.weights P t).all (· ≤ reachBytes) = true) : ∃ e, Rep noR W v e ∧ HasArg P n t e := by
  obtain ⟨fuel, hf⟩ := h
  obtain ⟨ds, h1, h2, h3⟩ := trod_reads n t hp fuel _ _ hf hw
  cases n with
  | zero => cases hp
  | succ n =>
    simp only [plainT] at hp
    unfold HasArg
    split at hp
    · rename_i hu
      obtain ⟨b, rfl⟩ := okWide_bool hu hv
      simp only [HasC, hu] at h2
      obtain ⟨c, rfl⟩ := h2
      exact ⟨_, h1.2.2 0 _ _ (by simp [Value.cells]) rfl, [.bool c], by simp only [HasC, hu]; exact ⟨c, rfl⟩, by simp [hu]⟩
    · rename_i k hu
      obtain ⟨b, rfl⟩ := okWide_int hu hv
      simp only [HasC, hu] at h2
      obtain ⟨c, rfl, h4⟩ := h2
      exact ⟨_, h1.2.2 0 _ _ (by simp [Value.cells]) rfl, [.int k c], by simp only [HasC, hu]; exact ⟨_, rfl, h4⟩, by simp [hu]⟩
    · rename_i hu
      obtain ⟨b, rfl⟩ := okWide_string hu hv
      simp only [HasC, hu] at h2
      obtain ⟨c, rfl, h4⟩ := h2
      exact ⟨_, h1.2.2 0 _ _ (by simp [Value.cells]) rfl, [.str c], by simp only [HasC, hu]; exact ⟨_, rfl, h4⟩, by simp [hu]⟩
    · rename_i e hu
      obtain ⟨a, len, cap, rfl⟩ := okWide_slice hu hv
      simp only [HasC, hu] at h2
      obtain ⟨c, rfl, h4⟩ := h2
      exact ⟨_, h1.2.2 0 _ _ (by simp [Value.cells]) rfl, [.sl c], by simp only [HasC, hu]; exact ⟨_, rfl, h4⟩, by simp [hu]⟩
    · rename_i fs hu
      simp only [Value.okWide, hu] at hv
      obtain ⟨cs, rfl, hsz, _⟩ := hv
      refine ⟨.agg ds, .agg cs ds ?_ h1.2.1 ?_, ds, h2, by simp [hu]⟩
      · have := h1.1; simpa [Value.cells] using this
      · intro i u e hu he
        exact h1.2.2 i u e (by simpa [Value.cells] using hu) he
    · rename_i k e hu
      simp only [Value.okWide, hu] at hv
      obtain ⟨cs, rfl, hsz, _⟩ := hv
      refine ⟨.agg ds, .agg cs ds ?_ h1.2.1 ?_, ds, h2, by simp [hu]⟩
      · have := h1.1; simpa [Value.cells] using this
      · intro i u e hu he
        exact h1.2.2 i u e (by simpa [Value.cells] using hu) he
    · cases hp

theorem args_read {n : Nat} : ∀ {ts : List TypeId} {vs : List Value} {ds : List (DataW H)} {ps : List MemPlace}, ts.all (plainT P n) = true → (∀ (j : Nat) t v, ts[j]? = some t → vs[j]? = some v → Value.okWide P W .any base t v) →
    DataW.TrodAll enc P W 0 (fun _ => true) true ts vs ds ps → (DataW.weightsEach P ts ds).all (· ≤ reachBytes) = true →
    ∃ es, vs.length = es.length ∧ (∀ (i : Nat) (v : Value) (d : D), vs[i]? = some v → es[i]? = some d → Rep noR W v d) ∧ HasArgs P n ts es
  | [], vs, ds, ps, hp, hv, h, hw => by
    obtain ⟨rfl, rfl, rfl⟩ := trodAll_nil h
    exact ⟨[], rfl, by simp, trivial⟩
  | t :: ts, vs, ds, ps, hp, hv, h, hw => by
    obtain ⟨v, vs, d, ds, p, q, rfl, rfl, rfl, h1, h2⟩ := trodAll_cons h
    simp only [List.all_cons, Bool.and_eq_true] at hp
    simp only [DataW.weightsEach, List.all_append, Bool.and_eq_true] at hw
    obtain ⟨e, g1, g2⟩ := arg_read hp.1 (hv 0 t v rfl rfl) h1 hw.1
    obtain ⟨es, g3, g4, g5⟩ := args_read (ts := ts) hp.2 (fun j t v ht hv' => hv (j + 1) t v (by simpa using ht) (by simpa using hv')) h2 hw.2
    refine ⟨e :: es, by simp [g3], fun i u f hu hf => ?_, g2, g5⟩
    cases i with
    | zero => simp at hu hf; subst hu; subst hf; exact g1
    | succ i => exact g4 i u f (by simpa using hu) (by simpa using hf)

theorem inv_none (w : World) : Inv noR w 0 (getO 0 []) := ⟨fun _ _ _ h => (by cases h), fun _ _ _ _ _ _ h => (by cases h), fun _ _ _ _ _ h => (by cases h), fun _ _ _ _ h => (by cases h)⟩

theorem Ext.below {w w' : World} {C C' : Cont} {φ' : Refs} (h : Ext 0 C noR w C' φ' w') : Below w.heap.size w w' :=
  ⟨h.os, h.tape, h.output, h.size, fun k hk => h.keep k hk fun _ _ _ hr => (by cases hr)⟩

theorem trodAll_below (hl : laidOutB P = true) {W' : World} (hb : Below W.heap.size W W') : ∀ {ts : List TypeId} {vs : List Value} {ds : List (DataW H)} {ps : List MemPlace}, ts.all (fun t => P.readableRec t && decide (t < P.types.size)) = true →
    DataW.TrodAll enc P W 0 (fun _ => true) true ts vs ds ps → DataW.TrodAll enc P W' 0 (fun b => decide (b < W.heap.size)) true ts vs ds ps
  | [], vs, ds, ps, hp, h => by
    obtain ⟨rfl, rfl, rfl⟩ := trodAll_nil h
    exact rfl
  | t :: ts, vs, ds, ps, hp, h => by
    have hlt := h.lt
    obtain ⟨v, vs, d, ds, p, q, rfl, rfl, rfl, h1, h2⟩ := trodAll_cons h
    simp only [List.all_cons, Bool.and_eq_true, decide_eq_true_eq] at hp
    exact ⟨p, q, Below.trod hl hp.1.1 hp.1.2 h1 hb (fun x hx => hlt x (by simp [hx])), trodAll_below hl hb (by simpa using hp.2) h2, rfl⟩
end

/-- The row: what is left to be shown is that the abstract machine answers 'true'. -/
theorem law_lifted {C : Checked} {A : Prog} {os : Os} {f : FuncId} {fn : Func} {s : ChangeSpec} {H : Type} {enc : TypeId × Value → H} (n : Nat)
    (own : ownKnob C.prog.godebug = none) (laid : laidOutB C.prog = true) (started : os.Started) (noInit : C.prog.inits.idxOf? f = none) (hfn : C.prog.funcs[f]? = some fn)
    (witness : ∃ (w : World) (tape : Tape) (i : Input), w.os = os ∧ (w.forCall tape i).Shaped C.prog ∧ i.vars = [] ∧ Input.okWide C.prog (w.forCall tape i) .any w.heap.size f i ∧
      s.pre6 enc C.prog fn [] false (w.forCall tape i).memory i.args ∧ (({} : Assume)).holds C.prog (lone (Frame.enter C.prog f i.args .normal) [] (w.forCall tape i)))
    (hname : (fn.name == "runtime.NumGoroutine") = false) (hbody : fn.body.isSome = true)
    (hvars : s.vars = []) (hplain : fn.params.toList.all (plainT C.prog n) = true) (hread : fn.params.toList.all (fun t => C.prog.readableRec t && decide (t < C.prog.types.size)) = true)
    (rt : TypeId) (hres : fn.resultTypes = #[rt]) (hrt : C.prog.underlying rt = some .bool)
    (hspec : ∀ ds : List (DataW H), ds.length = fn.params.size → s.fn H ds = { results := [.lit (.bool true)], args := ds, vars := [] })
    (hL : Links C.prog A) (hrun : ∀ ds, HasArgs C.prog n fn.params.toList ds → ∃ h', (lim A).call 0 0 f ds [] = some (.bool true, h')) :
    ReturnsInHanded {} C os f .any (s.pre6 enc C.prog fn [] false) (s.post enc C.prog fn false true false false) := by
  refine returnsInHanded_of_change_sized own started noInit hfn witness ?_
  intro W base args ds gs before hval hW hcnd hsz _
  have hW' := hW
  obtain ⟨p, q, hA, hV, rfl, hfz, hnd⟩ := hW
  rw [hvars] at hV
  have hgs : gs = [] ∧ q = [] := by
    cases gs with
    | nil => exact ⟨rfl, hV⟩
    | cons => exact hV.elim
  obtain ⟨rfl, rfl⟩ := hgs
  have hvt : s.plain.varTypes C.prog = [] := by
    have : s.plain.vars = [] := by simpa [ChangeSpec.plain] using hvars
    simp [DataSpec.varTypes, this]
  rw [hvt, List.append_nil, List.append_nil] at hsz
  obtain ⟨es, h1, h2, h3⟩ := args_read (n := n) hplain (fun j t v ht hv => hval j t v (by simpa using ht) (by simpa using hv)) hA hsz
  obtain ⟨h', hr⟩ := hrun es h3
  have hdl : ds.length = fn.params.size := by
    have : ∀ {ts : List TypeId} {vs : List Value} {ds : List (DataW H)} {ps : List MemPlace}, DataW.TrodAll enc C.prog W 0 (fun _ => true) true ts vs ds ps → ds.length = ts.length := by
      intro ts
      induction ts with
      | nil => intro vs ds ps h; obtain ⟨_, rfl, _⟩ := trodAll_nil h; rfl
      | cons t ts ih => intro vs ds ps h; obtain ⟨v, vs, d, ds, p, q, rfl, rfl, rfl, h1, h2⟩ := trodAll_cons h; simp [ih h2]
    simpa using this hA
  have hs := lim_sim hL 0 0 f es [] _ h' noR W args rfl (Nat.le_refl _) hr (inv_none W) ⟨by simpa using h1, fun i v d hv hd => h2 i v d (by simpa using hv) hd⟩ (fun l i hl => by omega)
  rcases hs with ⟨_, hc⟩ | ⟨v, w', φ', hv, _⟩
  · refine hc.mono fun e W' ⟨v, φ', he, hrep, hext, _⟩ => ⟨v, he, ?_⟩
    cases hrep
    have bel := hext.below
    refine ⟨_, _, _, [], p, [], hW', ?_, ?_, ?_, bel.frame _, fun h => by cases h⟩
    · rw [List.append_nil, hspec ds hdl, hres]
      exact trodAll_mk1 (shut_bool hrt _)
    · rw [List.append_nil, hspec ds hdl]
      exact trodAll_below laid bel hread hA
    · rw [List.append_nil, hspec ds hdl, hvars]; rfl
  · exfalso
    have hcall : (callFunc f args).run C.prog W = .ok (.enter f args) W := by
      obtain ⟨b, hb⟩ := Option.isSome_iff_exists.1 hbody
      simp only [callFunc, Sem.run_bind, run_program, Result.andThen_ok, hfn, hname, hb, Option.isNone_some, Bool.false_eq_true, if_false, Sem.run_pure]
    rw [hcall] at hv
    cases hv
end AM
/- What the cells of a law's arguments are, type by type. -/
namespace AM
open Go
variable {P : Program} {n : Nat} {t : TypeId} {ds : List D}
theorem has_i64 (hu : P.underlying t = some (.int .i64)) (h : HasC P (n + 1) t ds) : ∃ v : Int, ds = [.int .i64 v] ∧ (-9223372036854775808 ≤ v ∧ v ≤ 9223372036854775807) := by
  simp only [HasC, hu] at h
  exact h
theorem has_u64 (hu : P.underlying t = some (.int .u64)) (h : HasC P (n + 1) t ds) : ∃ v : Int, ds = [.int .u64 v] ∧ (0 ≤ v ∧ v ≤ 18446744073709551615) := by
  simp only [HasC, hu] at h
  exact h
theorem has_u8 (hu : P.underlying t = some (.int .u8)) (h : HasC P (n + 1) t ds) : ∃ v : Int, ds = [.int .u8 v] ∧ (0 ≤ v ∧ v ≤ 255) := by
  simp only [HasC, hu] at h
  exact h
theorem has_bool (hu : P.underlying t = some .bool) (h : HasC P (n + 1) t ds) : ∃ v : Bool, ds = [.bool v] := by
  simp only [HasC, hu] at h
  exact h
theorem has_str (hu : P.underlying t = some .string) (h : HasC P (n + 1) t ds) : ∃ s : List UInt8, ds = [.str s] ∧ s.length ≤ 140737488355327 := by
  simp only [HasC, hu] at h
  obtain ⟨s, h1, h2⟩ := h
  exact ⟨s, h1, by omega⟩
theorem has_sl {e : TypeId} {α : Type} {f : α → List D} {ok : α → Prop} (hu : P.underlying t = some (.slice e)) (k : Nat) (hb : P.bytesOf e = k + 1) (dec : ∀ c, HasC P n e c → ∃ x, ok x ∧ c = f x) (h : HasC P (n + 1) t ds) :
    ∃ l : List α, ds = [.sl (l.map f)] ∧ (∀ x ∈ l, ok x) ∧ l.length ≤ 140737488355327 := by
  simp only [HasC, hu] at h
  obtain ⟨es, h1, h2, _, h3⟩ := h
  have : ∀ es : List (List D), (∀ c ∈ es, HasC P n e c) → ∃ l : List α, es = l.map f ∧ (∀ x ∈ l, ok x) ∧ l.length = es.length := by
    intro es
    induction es with
    | nil => intro _; exact ⟨[], rfl, by simp, rfl⟩
    | cons c es ih =>
      intro hc
      obtain ⟨l, g1, g2, g3⟩ := ih fun d hd => hc d (by simp [hd])
      obtain ⟨x, hx, rfl⟩ := dec c (hc c (by simp))
      exact ⟨x :: l, by simp [g1], by simpa using ⟨hx, g2⟩, by simp [g3]⟩
  obtain ⟨l, g1, g2, g3⟩ := this es h3
  refine ⟨l, by rw [h1, g1], g2, ?_⟩
  rw [hb, Nat.mul_add, Nat.mul_one] at h2
  have : es.length ≤ 140737488351232 := Nat.le_trans (Nat.le_add_left _ _) h2
  omega
theorem has_struct {fs : Array Field} (hu : P.underlying t = some (.struct fs)) (h : HasC P (n + 1) t ds) : HasFs (HasC P n) fs.toList ds := by
  simp only [HasC, hu] at h
  exact h
theorem has_cons {g : TypeId → List D → Prop} {f : Field} {r : List Field} (h : HasFs g (f :: r) ds) : ∃ a b, ds = a ++ b ∧ g f.type a ∧ HasFs g r b := h
theorem has_nil {g : TypeId → List D → Prop} (h : HasFs g [] ds) : ds = [] := h
theorem has_arr4 {e : TypeId} (hu : P.underlying t = some (.array 4 e)) (he : P.underlying e = some (.int .u64)) (h : HasC P (n + 2) t ds) : ∃ a b c d : Int, ds = [.int .u64 a, .int .u64 b, .int .u64 c, .int .u64 d] ∧ (0 ≤ a ∧ a ≤ 18446744073709551615) ∧ (0 ≤ b ∧ b ≤ 18446744073709551615) ∧ (0 ≤ c ∧ c ≤ 18446744073709551615) ∧ (0 ≤ d ∧ d ≤ 18446744073709551615) := by
  rw [HasC, hu] at h
  obtain ⟨es, h1, h2, h3⟩ := h
  match es, h1 with
  | [w, x, y, z], _ =>
    obtain ⟨a, rfl, ha⟩ := has_u64 he (h3 w (by simp))
    obtain ⟨b, rfl, hb⟩ := has_u64 he (h3 x (by simp))
    obtain ⟨c, rfl, hc⟩ := has_u64 he (h3 y (by simp))
    obtain ⟨d, rfl, hd⟩ := has_u64 he (h3 z (by simp))
    exact ⟨a, b, c, d, by simpa using h2, ha, hb, hc, hd⟩
/-- The arguments, one by one. -/
theorem args_cons {ts : List TypeId} {ds : List D} (h : HasArgs P n (t :: ts) ds) : ∃ d r, ds = d :: r ∧ HasArg P n t d ∧ HasArgs P n ts r := by
  cases ds with
  | nil => exact h.elim
  | cons d r => exact ⟨d, r, rfl, h⟩
theorem args_nil {ds : List D} (h : HasArgs P n [] ds) : ds = [] := by
  cases ds with
  | nil => rfl
  | cons d r => exact h.elim
theorem arg_struct {fs : Array Field} (hu : P.underlying t = some (.struct fs)) {d : D} (h : HasArg P n t d) : ∃ cs, d = .agg cs ∧ HasC P n t cs := by
  obtain ⟨cs, h1, h2⟩ := h
  rw [hu] at h2
  exact ⟨cs, h2, h1⟩
theorem arg_i64 (hu : P.underlying t = some (.int .i64)) {d : D} (h : HasArg P (n + 1) t d) : ∃ v : Int, d = .int .i64 v ∧ (-9223372036854775808 ≤ v ∧ v ≤ 9223372036854775807) := by
  obtain ⟨cs, h1, h2⟩ := h
  rw [hu] at h2
  obtain ⟨v, h3, h4⟩ := has_i64 hu h1
  rw [h2] at h3
  simp only [List.cons.injEq, and_true] at h3
  exact ⟨v, h3, h4⟩
theorem arg_bool (hu : P.underlying t = some .bool) {d : D} (h : HasArg P (n + 1) t d) : ∃ v : Bool, d = .bool v := by
  obtain ⟨cs, h1, h2⟩ := h
  rw [hu] at h2
  obtain ⟨v, h3⟩ := has_bool hu h1
  rw [h2] at h3
  simp only [List.cons.injEq, and_true] at h3
  exact ⟨v, h3⟩
theorem arg_str (hu : P.underlying t = some .string) {d : D} (h : HasArg P (n + 1) t d) : ∃ s : List UInt8, d = .str s ∧ s.length ≤ 140737488355327 := by
  obtain ⟨cs, h1, h2⟩ := h
  rw [hu] at h2
  obtain ⟨v, h3, h4⟩ := has_str hu h1
  rw [h2] at h3
  simp only [List.cons.injEq, and_true] at h3
  exact ⟨v, h3, h4⟩
theorem arg_sl {e : TypeId} (hu : P.underlying t = some (.slice e)) {d : D} (h : HasArg P n t d) : HasC P n t [d] := by
  obtain ⟨cs, h1, h2⟩ := h
  rw [hu] at h2
  rw [← h2]; exact h1
end AM
/- Steps of the abstract machine for simp: branches become if-then-else; words for data. -/
namespace AM
open Go
section
variable (A : Prog) (S : Mch) (bar T : Nat)
variable {p : Prop} [Decidable p]
theorem kC_bool (b : Bool) (x y : ACode) (ρ : Env) (h : Heap) : kC A S bar T (some (.bool b)) x y ρ h = if b = true then exec A S bar T x ρ h else exec A S bar T y ρ h := by cases b <;> rfl
theorem kG_bool (b : Bool) (o : AOp) (dst : Option Nat) (r : List AOper) (ρ : Env) (h : Heap) : kG A S bar T (some b) o dst r ρ h = if b = true then kO A S bar T (opD A S bar T o ρ h) dst r ρ else opsD A S bar T r (putE ρ dst .undef) h := by cases b <;> rfl
theorem kO_ite (x y : Option (D × Heap)) (dst : Option Nat) (r : List AOper) (ρ : Env) : kO A S bar T (if p then x else y) dst r ρ = if p then kO A S bar T x dst r ρ else kO A S bar T y dst r ρ := apply_ite (fun z => kO A S bar T z dst r ρ) p x y
theorem kO_none (dst : Option Nat) (r : List AOper) (ρ : Env) : kO A S bar T none dst r ρ = none := rfl
theorem kR_ite (x y : Option (Env × Heap)) : kR (if p then x else y) = if p then kR x else kR y := apply_ite kR p x y
theorem kR_none : kR none = none := rfl
theorem kS_ite (x y : Option (Ex × Env × Heap)) (b : ACode) : kS A S bar T (if p then x else y) b = if p then kS A S bar T x b else kS A S bar T y b := apply_ite (fun z => kS A S bar T z b) p x y
theorem kS_none (b : ACode) : kS A S bar T none b = none := rfl
theorem kC_ite (u v : Option D) (x y : ACode) (ρ : Env) (h : Heap) : kC A S bar T (if p then u else v) x y ρ h = if p then kC A S bar T u x y ρ h else kC A S bar T v x y ρ h := apply_ite (fun z => kC A S bar T z x y ρ h) p u v
theorem inBlk_ite (id : Nat) (x y : Option (Ex × Env × Heap)) : inBlk id (if p then x else y) = if p then inBlk id x else inBlk id y := apply_ite (inBlk id) p x y
theorem thn_ite (x y : Option (Ex × Env × Heap)) (f : Env → Heap → Option (Ex × Env × Heap)) : thn (if p then x else y) f = if p then thn x f else thn y f := apply_ite (fun z => thn z f) p x y
theorem bnd_ite {α β : Type} (x y : Option α) (f : α → Option β) : bnd (if p then x else y) f = if p then bnd x f else bnd y f := apply_ite (fun z => bnd z f) p x y
theorem brk_ite {β : Type} (b : Bool) (x y : Option β) : brk b x y = if b = true then x else y := by cases b <;> rfl
theorem endD_ite (res : List ARes) (tr : Bool) (x y : Option (Ex × Env × Heap)) : endD T res tr (if p then x else y) = if p then endD T res tr x else endD T res tr y := apply_ite (endD T res tr) p x y
theorem endD_none (res : List ARes) (tr : Bool) : endD T res tr none = none := rfl
end

/-! ### Words -/
theorem wrap_i64 {n : Int} (h1 : -9223372036854775808 ≤ n) (h2 : n ≤ 9223372036854775807) : IntKind.i64.wrap n = n := by
  unfold IntKind.wrap; simp [IntKind.bits, IntKind.signed]; omega
theorem wrap_u64 {n : Int} (h1 : 0 ≤ n) (h2 : n ≤ 18446744073709551615) : IntKind.u64.wrap n = n := by
  unfold IntKind.wrap; simp [IntKind.bits, IntKind.signed]; omega
theorem wrap_u8 {n : Int} (h1 : 0 ≤ n) (h2 : n ≤ 255) : IntKind.u8.wrap n = n := by
  unfold IntKind.wrap; simp [IntKind.bits, IntKind.signed]; omega
theorem inRange_nat {i n : Nat} (h : i < n) : inRange (i : Int) n = some i := by
  unfold inRange; rw [show decide ((0:Int) ≤ i ∧ (i:Int) < n) = true by simp; omega]; simp
end AM
namespace AM
theorem eqL_cons (k : SK) (ks : List SK) (a b : D) (x y : List D) : eqL (k :: ks) (a :: x) (b :: y) = bnd (eqSK k a b) fun r => if r = true then eqL ks x y else some false := by
  simp only [eqL]; cases eqSK k a b with
  | none => rfl
  | some r => cases r <;> rfl
theorem eqL_nil : eqL [] [] [] = some true := rfl
theorem ite_tf {p : Prop} [Decidable p] : (if p then some true else some false) = some (decide p) := by by_cases h : p <;> simp [h]
theorem ite_bf {p : Prop} [Decidable p] (b : Bool) : (if p then some b else some false) = some (decide p && b) := by by_cases h : p <;> simp [h]
end AM
namespace AM
@[simp] theorem wrap_lit0 : Go.IntKind.i64.wrap 0 = 0 := by decide
@[simp] theorem wrap_lit1 : Go.IntKind.i64.wrap 1 = 1 := by decide
@[simp] theorem wrap_lit2 : Go.IntKind.i64.wrap 2 = 2 := by decide
@[simp] theorem wrap_litm1 : Go.IntKind.i64.wrap (-1) = -1 := by decide
@[simp] theorem wrap_litm2 : Go.IntKind.i64.wrap (-2) = -2 := by decide
end AM
namespace AM
/-- A run that comes out, and how. -/
def Ends (X : Option (Ex × Env × Heap)) (Q : Ex → Env → Heap → Prop) : Prop := ∃ e ρ h, X = some (e, ρ, h) ∧ Q e ρ h
@[simp] theorem Ends_some (e : Ex) (ρ : Env) (h : Heap) (Q : Ex → Env → Heap → Prop) : Ends (some (e, ρ, h)) Q ↔ Q e ρ h := by
  constructor
  · rintro ⟨_, _, _, h1, h2⟩; cases h1; exact h2
  · intro hq; exact ⟨e, ρ, h, rfl, hq⟩
end AM
namespace AM
theorem inRange_zero {n : Nat} (h : 0 < n) : inRange 0 n = some 0 := by
  have := inRange_nat h; simpa using this
theorem inRange_one {n : Nat} (h : 1 < n) : inRange 1 n = some 1 := by
  have := inRange_nat h; simpa using this
theorem inRange_int {a : Int} {n : Nat} (h0 : 0 ≤ a) (h : a < n) : inRange a n = some a.toNat := by
  unfold inRange; rw [decide_eq_true ⟨h0, h⟩]; simp
end AM
namespace AM
@[simp] theorem beq_add (T k : Nat) : (T == T + (k + 1)) = false := by simp
@[simp] theorem add_beq (T k : Nat) : (T + (k + 1) == T) = false := by simp
end AM
namespace AM
open Go
/-! What simp looks at: what stands first, and nothing behind it. -/
section
variable (A : Prog) (S : Mch) (bar T : Nat)
@[congr] theorem exec_congr (c : ACode) (ρ : Env) (h : Heap) : exec A S bar T c ρ h = exec A S bar T c ρ h := rfl
@[congr] theorem opsD_congr (c : List AOper) (ρ : Env) (h : Heap) : opsD A S bar T c ρ h = opsD A S bar T c ρ h := rfl
@[congr] theorem opD_congr (c : AOp) (ρ : Env) (h : Heap) : opD A S bar T c ρ h = opD A S bar T c ρ h := rfl
@[congr] theorem step_congr (c : AOp) (ρ : Env) (h : Heap) : step bar T c ρ h = step bar T c ρ h := rfl
@[congr] theorem lk_congr (ρ : Env) (n : Nat) : lk ρ n = lk ρ n := rfl
@[congr] theorem keep_congr (ks : List Nat) (ρ : Env) : keep ks ρ = keep ks ρ := rfl
@[congr] theorem putE_congr (ρ : Env) (dst : Option Nat) (d : D) : putE ρ dst d = putE ρ dst d := rfl
@[congr] theorem ev_congr (ρ : Env) (o : Opd) : Opd.ev ρ o = Opd.ev ρ o := rfl
@[congr] theorem evAll_congr (ρ : Env) (o : List Opd) : evAll ρ o = evAll ρ o := rfl
@[congr] theorem wanted_congr (ρ : Env) (o : Option (Nat × Bool)) : wanted ρ o = wanted ρ o := rfl
@[congr] theorem kS_congr {x x' : Option (Ex × Env × Heap)} (b : ACode) (h : x = x') : kS A S bar T x b = kS A S bar T x' b := by rw [h]
@[congr] theorem kO_congr {x x' : Option (D × Heap)} (dst : Option Nat) (r : List AOper) (ρ : Env) (h : x = x') : kO A S bar T x dst r ρ = kO A S bar T x' dst r ρ := by rw [h]
@[congr] theorem kG_congr {b b' : Option Bool} (o : AOp) (dst : Option Nat) (r : List AOper) (ρ : Env) (h : Heap) (e : b = b') : kG A S bar T b o dst r ρ h = kG A S bar T b' o dst r ρ h := by rw [e]
@[congr] theorem kC_congr {b b' : Option D} (x y : ACode) (ρ : Env) (h : Heap) (e : b = b') : kC A S bar T b x y ρ h = kC A S bar T b' x y ρ h := by rw [e]
@[congr] theorem kK_congr {b b' : Option Env} (c : ACode) (h : Heap) (e : b = b') : kK A S bar T b c h = kK A S bar T b' c h := by rw [e]
@[congr] theorem endD_congr (res : List ARes) (tr : Bool) {x x' : Option (Ex × Env × Heap)} (h : x = x') : endD T res tr x = endD T res tr x' := by rw [h]
end
end AM
/- Slices that a frame builds: their elements, and what 'append' makes of them. -/
namespace AM
open Go
/-- A slice that frame T built, from its first element on. -/
def Built (T : Nat) (f : List Obj) (sz : Nat) (d : D) (xs : List (List D)) : Prop := (d = .nil ∧ xs = []) ∨ ∃ j, d = .own T j 0 xs.length sz false ∧ f[j]? = some (.arr xs)
theorem Built.nil {T : Nat} {f : List Obj} {sz : Nat} : Built T f sz .nil [] := .inl ⟨rfl, rfl⟩
theorem Built.push {T : Nat} {f : List Obj} {sz : Nat} {d : D} {xs : List (List D)} (h : Built T f sz d xs) (o : Obj) : Built T (f ++ [o]) sz d xs := by
  rcases h with h | ⟨j, h1, h2⟩
  · exact .inl h
  · refine .inr ⟨j, h1, ?_⟩
    have : j < f.length := by
      rcases Nat.lt_or_ge j f.length with h | h
      · exact h
      · rw [List.getElem?_eq_none h] at h2; cases h2
    rw [List.getElem?_append_left this]; exact h2
/-- The object of a slice. -/
def ownIx : D → Option Nat
  | .own _ j .. => some j
  | _ => none
theorem Built.app {bar T bytes sz lv : Nat} {f : List Obj} {h : Heap} {d : D} {xs new : List (List D)} (hB : Built T f sz d xs) (hb : bar ≤ T) (hn : new ≠ []) (hr : rowsOk sz new = true) (hlv : lv ≤ T + 1) (hs : (xs.length + new.length) * bytes ≤ 140737488355328) :
    ∃ f' d', appendD bar (T + 1) bytes sz (f :: h) d new lv = some (d', f' :: h) ∧ Built T f' sz d' (xs ++ new) ∧ f.length ≤ f'.length ∧ ∀ j, j < f.length → ownIx d ≠ some j → f'[j]? = f[j]? := by
  have hne : new.isEmpty = false := by cases new with
    | nil => exact absurd rfl hn
    | cons => rfl
  rcases hB with ⟨rfl, rfl⟩ | ⟨j, rfl, hj⟩
  · refine ⟨f ++ [.arr new], .own T f.length 0 new.length sz false, ?_, .inr ⟨f.length, by simp, by simp⟩, by simp, fun j hj _ => by rw [List.getElem?_append_left hj]⟩
    have : (decide (lv ≤ T + 1 ∧ new.length * bytes ≤ 140737488355328)) = true := by simp at hs ⊢; omega
    simp [appendD, hne, hr, this, newO, pushO]
  · have hjl : j < f.length := by
      rcases Nat.lt_or_ge j f.length with h | h
      · exact h
      · rw [List.getElem?_eq_none h] at hj; cases hj
    refine ⟨f.set j .dead ++ [.arr (xs ++ new)], .own T f.length 0 (xs ++ new).length sz false, ?_, .inr ⟨f.length, rfl, by
      rw [List.getElem?_append_right (by simp)]; simp⟩, by simp, fun i hi hne => ?_⟩
    · have e1 : decide (bar ≤ T ∧ 0 + xs.length ≤ xs.length ∧ lv ≤ T + 1) = true := by simp; omega
      have e2 : decide (0 + xs.length + new.length ≤ xs.length) = false := by
        have : 0 < new.length := List.length_pos_iff.2 hn
        simp; omega
      have e3 : decide ((xs.length + new.length) * bytes ≤ 140737488355328) = true := by simpa using hs
      simp only [appendD, getO, beq_self_eq_true, brk_true, hj, bnd_some, asArr, Bool.not_false, Bool.true_and, hr, e1, e2, e3, brk_false, newO, setO, cond_true, pushO]
      simp
    · rw [List.getElem?_append_left (by simpa using hi), List.getElem?_set_ne]
      intro e; subst e; exact hne rfl
theorem frzEs_plain {T n : Nat} {h : Heap} : ∀ {xs : List (List D)}, (∀ row ∈ xs, frz.frzAll T h n row = some row ∧ D.lvl.lvlAll row = 0) → frz.frzEs T h n xs = some xs
  | [], _ => by simp [frz.frzEs]
  | x :: xs, hx => by
    obtain ⟨h1, h2⟩ := hx x (by simp)
    have := frzEs_plain (xs := xs) fun r hr => hx r (by simp [hr])
    simp [frz.frzEs, h1, h2, this]
theorem Built.frz {T sz : Nat} {f : List Obj} {h : Heap} {d : D} {xs : List (List D)} (hB : Built T f sz d xs) {n : Nat} (hx : ∀ row ∈ xs, frz.frzAll (T + 1) (f :: h) n row = some row ∧ D.lvl.lvlAll row = 0) : frz (T + 1) (f :: h) (n + 1) d = some (.sl xs) := by
  rcases hB with ⟨rfl, rfl⟩ | ⟨j, rfl, hj⟩
  · simp [AM.frz]
  · simp [AM.frz, getO, hj, asArr, frzEs_plain hx]
theorem Built.elems {T sz : Nat} {f : List Obj} {h : Heap} {d : D} {xs : List (List D)} (hB : Built T f sz d xs) : elems (T + 1) (f :: h) d = some xs := by
  rcases hB with ⟨rfl, rfl⟩ | ⟨j, rfl, hj⟩
  · simp [AM.elems]
  · simp [AM.elems, getO, hj, asArr]
theorem Built.len {T sz : Nat} {f : List Obj} {d : D} {xs : List (List D)} (hB : Built T f sz d xs) : lenVD d = some (.int .i64 xs.length) := by
  rcases hB with ⟨rfl, rfl⟩ | ⟨j, rfl, hj⟩ <;> simp [lenVD]
end AM
/- Runs that the kernel can carry out: what leaves a frame, by recursion on one number. -/
namespace AM
open Go

mutual
def frz1 (T : Nat) (h : Heap) : Nat → Nat → D → Option D
  | 0, _, _ => none
  | _ + 1, 0, _ => none
  | k + 1, n + 1, d => match d with
    | .own l i off len sz lim => brk (l + 1 == T)
        (bnd (getO T h l i) fun o => bnd (asArr o) fun es => brk (decide (off + len ≤ es.length)) (bnd (frzR T h k n ((es.drop off).take len)) fun r => some (.sl r)) none)
        (some (.own l i off len sz lim))
    | .nil => some (.sl [])
    | .ptr l i e j => brk (decide (l + 1 < T)) (some (.ptr l i e j)) none
    | .map l i => brk (decide (l + 1 < T)) (some (.map l i)) none
    | .agg cs => bnd (frzL T h k n cs) fun r => some (.agg r)
    | .tup cs => bnd (frzL T h k n cs) fun r => some (.tup r)
    | .fn f a b => bnd (frzL T h k n a) fun a' => bnd (frzL T h k n b) fun b' => some (.fn f a' b')
    | .ifc t e => bnd (frz1 T h k n e) fun e' => some (.ifc t e')
    | .rptr cs j => some (.rptr cs j)
    | .undef => some .undef
    | .bool b => some (.bool b)
    | .int k n => some (.int k n)
    | .str s => some (.str s)
    | .sl es => some (.sl es)
    | .nilp => some .nilp
    | .nilm => some .nilm
    | .nilf => some .nilf
    | .nili => some .nili
def frzL (T : Nat) (h : Heap) : Nat → Nat → List D → Option (List D)
  | 0, _, _ => none
  | _ + 1, _, [] => some []
  | k + 1, n, d :: r => bnd (frz1 T h k n d) fun d' => bnd (frzL T h k n r) fun r' => some (d' :: r')
def frzR (T : Nat) (h : Heap) : Nat → Nat → List (List D) → Option (List (List D))
  | 0, _, _ => none
  | _ + 1, _, [] => some []
  | k + 1, n, cs :: r => bnd (frzL T h k n cs) fun c => brk (D.lvl.lvlAll c == 0) (bnd (frzR T h k n r) fun r' => some (c :: r')) none
end

theorem frz_of (T : Nat) (h : Heap) : ∀ k, (∀ n d r, frz1 T h k n d = some r → frz T h n d = some r) ∧ (∀ n l r, frzL T h k n l = some r → frz.frzAll T h n l = some r) ∧ (∀ n l r, frzR T h k n l = some r → frz.frzEs T h n l = some r)
  | 0 => ⟨fun _ _ _ e => (by cases e), fun _ _ _ e => (by cases e), fun _ _ _ e => (by cases e)⟩
  | k + 1 => by
    obtain ⟨i1, i2, i3⟩ := frz_of T h k
    refine ⟨fun n d r e => ?_, fun n l r e => ?_, fun n l r e => ?_⟩
    · cases n with
      | zero => cases e
      | succ n =>
        cases d
        case own l i off len sz lim =>
          simp only [frz1] at e
          simp only [frz]
          rcases brk_eq e with ⟨e1, e2⟩ | ⟨e1, e2⟩
          · obtain ⟨o, e3, e4⟩ := bnd_eq e2
            obtain ⟨es, e5, e6⟩ := bnd_eq e4
            obtain ⟨e7, e8⟩ := brk_none e6
            obtain ⟨q, e9, e10⟩ := bnd_eq e8
            simp only [e1, brk_true, e3, bnd_some, e5, e7, i3 _ _ _ e9]
            exact e10
          · simp only [e1, brk_false]; exact e2
        case agg cs =>
          simp only [frz1] at e; simp only [frz]
          obtain ⟨q, e9, e10⟩ := bnd_eq e
          simp only [i2 _ _ _ e9, bnd_some]; exact e10
        case tup cs =>
          simp only [frz1] at e; simp only [frz]
          obtain ⟨q, e9, e10⟩ := bnd_eq e
          simp only [i2 _ _ _ e9, bnd_some]; exact e10
        case fn f a b =>
          simp only [frz1] at e; simp only [frz]
          obtain ⟨q, e9, e10⟩ := bnd_eq e
          obtain ⟨q', e11, e12⟩ := bnd_eq e10
          simp only [i2 _ _ _ e9, i2 _ _ _ e11, bnd_some]; exact e12
        case ifc t d =>
          simp only [frz1] at e; simp only [frz]
          obtain ⟨q, e9, e10⟩ := bnd_eq e
          simp only [i1 _ _ _ e9, bnd_some]; exact e10
        all_goals (simp only [frz1] at e; simp only [frz]; exact e)
    · cases l with
      | nil => simp only [frzL] at e; simp only [frz.frzAll]; exact e
      | cons d l =>
        simp only [frzL] at e; simp only [frz.frzAll]
        obtain ⟨q, e9, e10⟩ := bnd_eq e
        obtain ⟨q', e11, e12⟩ := bnd_eq e10
        simp only [i1 _ _ _ e9, i2 _ _ _ e11, bnd_some]; exact e12
    · cases l with
      | nil => simp only [frzR] at e; simp only [frz.frzEs]; exact e
      | cons d l =>
        simp only [frzR] at e; simp only [frz.frzEs]
        obtain ⟨q, e9, e10⟩ := bnd_eq e
        obtain ⟨e1, e2⟩ := brk_none e10
        obtain ⟨q', e11, e12⟩ := bnd_eq e2
        simp only [i2 _ _ _ e9, e1, brk_true, i3 _ _ _ e11, bnd_some]; exact e12

def endK (T : Nat) (res : List ARes) (tr : Bool) (r : Option (Ex × Env × Heap)) : Option (D × Heap) :=
  bnd r fun p => match p.1 with
    | .exit _ => none
    | _ => bnd (resD T p.2.1 p.2.2 res) fun ds => brk tr (some (tupD ds, p.2.2)) (bnd (frz1 T p.2.2 5000 50 (tupD ds)) fun d => some (d, p.2.2.tail))

section
variable (A : Prog) (S : Mch)
def callK (bar T : Nat) (f : FuncId) (args : List D) (h : Heap) : Option (D × Heap) :=
  match A.orc f with
  | some o => bnd (o args) fun d => some (d, h)
  | none => bnd (A.fn f) fun fn => brk fn.tr
      (brk (decide (bar < T)) (endK T fn.res true (exec A S bar T fn.body (argEnv args 0) h)) none)
      (endK (T + 1) fn.res false (exec A S bar (T + 1) fn.body (argEnv args 0) ([] :: h)))
def iterK (A : Prog) : Nat → Mch
  | 0 => Mch.none'
  | n + 1 => ⟨callK A (iterK A n), lpB A (iterK A n)⟩
end

section
variable {A : Prog} {S S' : Mch} {bar T : Nat}
theorem endK_some {res : List ARes} {tr : Bool} {ρ : Env} {h : Heap} {r : D × Heap} (h2 : (bnd (resD T ρ h res) fun ds => brk tr (some (tupD ds, h)) (bnd (frz1 T h 5000 50 (tupD ds)) fun d => some (d, h.tail))) = some r) :
    (bnd (resD T ρ h res) fun ds => brk tr (some (tupD ds, h)) (bnd (frz T h 50 (tupD ds)) fun d => some (d, h.tail))) = some r := by
  obtain ⟨ds, h3, h4⟩ := bnd_eq h2
  rw [h3, bnd_some]
  rcases brk_eq h4 with ⟨h5, h6⟩ | ⟨h5, h6⟩
  · rw [h5, brk_true]; exact h6
  · obtain ⟨d, h7, h8⟩ := bnd_eq h6
    rw [h5, brk_false, (frz_of _ _ _).1 _ _ _ h7, bnd_some]; exact h8
theorem endK_end {res : List ARes} {tr : Bool} {x : Option (Ex × Env × Heap)} {r : D × Heap} (hs : endK T res tr x = some r) : endD T res tr x = some r := by
  unfold endK at hs
  unfold endD
  obtain ⟨p, h1, h2⟩ := bnd_eq hs
  rw [h1, bnd_some]
  obtain ⟨e, ρ, h⟩ := p
  cases e with
  | normal => exact endK_some h2
  | ret => exact endK_some h2
  | exit n => cases h2

theorem callK_call {f : FuncId} {ds : List D} {h : Heap} {r : D × Heap} (hs : callK A S bar T f ds h = some r) : callB A S bar T f ds h = some r := by
  unfold callK at hs
  unfold callB
  cases ho : A.orc f with
  | some o => rw [ho] at hs; exact hs
  | none =>
    rw [ho] at hs
    obtain ⟨fn, h1, h2⟩ := bnd_eq hs
    simp only [h1, bnd_some]
    rcases brk_eq h2 with ⟨h5, h6⟩ | ⟨h5, h6⟩
    · rw [h5, brk_true]
      obtain ⟨h7, h8⟩ := brk_none h6
      rw [h7, brk_true]
      exact endK_end h8
    · rw [h5, brk_false]
      exact endK_end h6

theorem iterK_le (A : Prog) : ∀ n, Le (iterK A n) (iter A n)
  | 0 => Le.refl _
  | n + 1 => ⟨fun _ _ _ _ _ _ h => callB_le (iterK_le A n) (callK_call h), fun _ _ _ _ _ _ h => lpB_le (iterK_le A n) h⟩

/-- What the kernel finds. -/
theorem lim_calc (n : Nat) {f : FuncId} {ds : List D} {h : Heap} {r : D × Heap} (hs : (iterK A n).call bar T f ds h = some r) : (lim A).call bar T f ds h = some r :=
  lim_call.2 ⟨n, (iterK_le A n).call _ _ _ _ _ _ hs⟩
end
end AM
