/- Part of the proofs of this seat's statements: what the functions compute. No condition. -/
import Derived.Test.YtmocggibcniggaaC18P
set_option linter.unusedSimpArgs false
set_option linter.unusedVariables false
namespace Go.Proofs.Ytmocggibcniggaa.Kt
open Go Kw Go.Proofs
theorem kind_at {t : List Nd} (ht : ∀ n ∈ t, KindOk n.v) {n : Nd} (h : GoodN t n) : KindOk (t.getD n.p.toNat zNd).v := by
  obtain ⟨p, hp, hl⟩ := h
  rw [hp, Int.toNat_natCast, List.getD_eq_getElem?_getD, List.getElem?_eq_getElem hl]
  exact ht _ (List.getElem_mem hl)
theorem betr_soon {t : List Nd} {a b : Nd} (ht : ∀ n ∈ t, KindOk n.v) (ha : GoodN t a) (hb : GoodN t b) (ka : KindOk a.v) (kb : KindOk b.v) : betr t a b = soon t a b := by
  unfold betr soon
  exact bt_soon ka kb (kind_at ht ha) (kind_at ht hb) (fun e => by rw [e])
theorem cand_v {t : List Nd} {e : Eg} {n : Nd} (h : candL t e = some n) : n.v = e.t := by
  unfold candL at h
  split at h
  · cases h; rfl
  · cases h
theorem best_same {t : List Nd} (ht : ∀ n ∈ t, KindOk n.v) : ∀ {es : List Eg} {m : Option Nd}, (∀ e ∈ es, KindOk e.t) → (∀ b, m = some b → GoodN t b ∧ KindOk b.v) → es.foldl (stepT betr t) m = es.foldl (stepT soon t) m
  | [], m, _, _ => rfl
  | e :: es, m, he, hm => by
    have hs : stepT betr t m e = stepT soon t m e := by
      unfold stepT
      cases hc : candL t e with
      | none => rfl
      | some n =>
        cases m with
        | none => rfl
        | some b =>
          obtain ⟨g1, g2⟩ := hm b rfl
          simp only
          rw [betr_soon ht (cand_good hc) g1 (by rw [cand_v hc]; exact he e (List.mem_cons_self ..)) g2]
    rw [List.foldl_cons, List.foldl_cons, hs]
    refine best_same ht (fun e' h => he e' (List.mem_cons_of_mem _ h)) (fun b hb => ⟨step_good (fun b h => (hm b h).1) b hb, ?_⟩)
    unfold stepT at hb
    split at hb
    · exact (hm b hb).2
    · rename_i n hn
      have kn : KindOk n.v := by rw [cand_v hn]; exact he e (List.mem_cons_self ..)
      split at hb
      · cases hb; exact kn
      · rename_i b'
        split at hb
        · cases hb; exact kn
        · exact (hm b hb).2
theorem treeN_same {es : List Eg} (he : ∀ e ∈ es, KindOk e.t) : ∀ (k : Nat) (t : List Nd), (∀ n ∈ t, KindOk n.v) → treeN betr es k t = treeN soon es k t
  | 0, t, _ => rfl
  | k + 1, t, ht => by
    have hb : bestL betr t es = bestL soon t es := best_same ht he (fun b h => by cases h)
    cases hs : bestL soon t es with
    | none => rw [treeN_none hs, treeN_none (hb.trans hs)]
    | some n =>
      rw [treeN_some hs, treeN_some (hb.trans hs)]
      refine treeN_same he k (t ++ [n]) (fun x hx => ?_)
      rcases List.mem_append.1 hx with hx | hx
      · exact ht x hx
      · rw [List.mem_singleton.1 hx]
        obtain ⟨_, e, h1, h2⟩ := best_new hs
        rw [h2]; exact he e h1
theorem prg_ref {m : Mp} {root : Vt} (hv : ∀ v ∈ m.vs, KindOk v) (he : ∀ e ∈ m.es, KindOk e.t) : prgTree m root = refTree m root := by
  unfold prgTree refTree
  cases hr : m.vs.any (fun x => decide (x = root)) with
  | false => rfl
  | true =>
    refine treeN_same he _ _ (fun n hn => ?_)
    rw [List.mem_singleton.1 hn]
    obtain ⟨y, hy, hyr⟩ := List.any_eq_true.1 hr
    show KindOk root
    rw [← of_decide_eq_true hyr]
    exact hv y hy
end Go.Proofs.Ytmocggibcniggaa.Kt
