/-
  The walk of the reference's recursive search.
-/
import Derived.Test.YtpfinkcnklkclaaOrd2
set_option linter.unusedVariables false
set_option linter.unusedSimpArgs false
namespace Go.Proofs.Ytpfinkcnklkclaa
open Go.RowKit

/-- One successor in the recursive search with fuel f. -/
def visit1 (g : List (List Nat)) (f : Nat) (st : List Bool × List Nat) (s : Nat) : List Bool × List Nat := if st.1.getD s true then st else visit g f st s
theorem visit_succ (g : List (List Nat)) (f : Nat) (st : List Bool × List Nat) (n : Nat) :
    visit g (f + 1) st n = (((succ g n).foldl (visit1 g f) (st.1.set n true, st.2)).1, ((succ g n).foldl (visit1 g f) (st.1.set n true, st.2)).2 ++ [n]) := rfl
theorem unseen_set : ∀ {seen : List Bool} {n : Nat}, seen[n]? = some false → unseen (seen.set n true) + 1 = unseen seen
  | [], n, h => by simp at h
  | b :: l, 0, h => by simp at h; subst h; simp [unseen]
  | b :: l, n + 1, h => by
    have := unseen_set (seen := l) (n := n) (by simpa using h)
    unfold unseen at this ⊢
    cases b <;> simp at this ⊢ <;> omega

/-- What lies in memory during the search. -/
structure SMem (w0 w : World) (B0 bs : Nat) (seen : List Bool) (pv : Value) (post : List Nat) : Prop where
  hs : w.heap[bs]? = some (.cells (seen.map encBool).toArray 4 (0, 0))
  hp : w.ownsRow B0 3 1 pv post.length (post.map encNat)
  hb : Below B0 w0 w
  lt : B0 ≤ bs

/-- The lists after the search of a node. -/
theorem visit_facts (g : List (List Nat)) : ∀ (f : Nat) (st : List Bool × List Nat) (n : Nat), st.1[n]? = some false → (visit g f st n).1.length = st.1.length ∧ unseen (visit g f st n).1 ≤ unseen st.1 ∧ (visit g f st n).2.length + unseen (visit g f st n).1 ≤ st.2.length + unseen st.1
  | 0, st, n, _ => ⟨rfl, Nat.le_refl _, Nat.le_refl _⟩
  | f + 1, st, n, h => by
    have ih := visit_facts g f
    have hfold : ∀ (l : List Nat) (s : List Bool × List Nat), (l.foldl (visit1 g f) s).1.length = s.1.length ∧ unseen (l.foldl (visit1 g f) s).1 ≤ unseen s.1 ∧ (l.foldl (visit1 g f) s).2.length + unseen (l.foldl (visit1 g f) s).1 ≤ s.2.length + unseen s.1 := by
      intro l
      induction l with
      | nil => intro s; exact ⟨rfl, Nat.le_refl _, Nat.le_refl _⟩
      | cons a l ihl =>
        intro s
        have h1 : (visit1 g f s a).1.length = s.1.length ∧ unseen (visit1 g f s a).1 ≤ unseen s.1 ∧ (visit1 g f s a).2.length + unseen (visit1 g f s a).1 ≤ s.2.length + unseen s.1 := by
          unfold visit1
          by_cases hs : s.1.getD a true = true
          · rw [if_pos hs]; exact ⟨rfl, Nat.le_refl _, Nat.le_refl _⟩
          · rw [if_neg hs]
            refine ih s a ?_
            rw [List.getD_eq_getElem?_getD] at hs
            cases e : s.1[a]? with
            | none => rw [e] at hs; simp at hs
            | some b => rw [e] at hs; simp at hs; rw [hs]
        have h2 := ihl (visit1 g f s a)
        rw [List.foldl_cons]
        omega
    have h1 := hfold (succ g n) (st.1.set n true, st.2)
    have h2 := unseen_set h
    rw [visit_succ]
    simp only [List.length_set, List.length_append, List.length_singleton] at h1 ⊢
    omega

theorem fold_facts (g : List (List Nat)) (f : Nat) : ∀ (l : List Nat) (s : List Bool × List Nat), (l.foldl (visit1 g f) s).1.length = s.1.length ∧ unseen (l.foldl (visit1 g f) s).1 ≤ unseen s.1 ∧ (l.foldl (visit1 g f) s).2.length + unseen (l.foldl (visit1 g f) s).1 ≤ s.2.length + unseen s.1
  | [], s => ⟨rfl, Nat.le_refl _, Nat.le_refl _⟩
  | a :: l, s => by
    have h1 : (visit1 g f s a).1.length = s.1.length ∧ unseen (visit1 g f s a).1 ≤ unseen s.1 ∧ (visit1 g f s a).2.length + unseen (visit1 g f s a).1 ≤ s.2.length + unseen s.1 := by
      unfold visit1
      by_cases hs : s.1.getD a true = true
      · rw [if_pos hs]; exact ⟨rfl, Nat.le_refl _, Nat.le_refl _⟩
      · rw [if_neg hs]
        refine visit_facts g f s a ?_
        rw [List.getD_eq_getElem?_getD] at hs
        cases e : s.1[a]? with
        | none => rw [e] at hs; simp at hs
        | some b => rw [e] at hs; simp at hs; rw [hs]
    have h2 := fold_facts g f l (visit1 g f s a)
    rw [List.foldl_cons]
    omega

theorem SMem.box {w0 w : World} {B0 bs : Nat} {seen : List Bool} {pv : Value} {post : List Nat} (h : SMem w0 w B0 bs seen pv post) (o : Obj) : SMem w0 (w.alloc o) B0 bs seen pv post := by
  obtain ⟨hs, hp, hb, lt⟩ := h
  exact ⟨alloc_blk hs, hp.alloc _, hb.alloc (by have := lt_of_block hs; omega) _, lt⟩
theorem SMem.mark {w0 w : World} {B0 bs n : Nat} {seen : List Bool} {pv : Value} {post : List Nat} (h : SMem w0 w B0 bs seen pv post) : SMem w0 (w.setCell ⟨bs, n, none⟩ (.bool true)) B0 bs (seen.set n true) pv post := by
  obtain ⟨hs, hp, hb, lt⟩ := h
  refine ⟨?_, ownsRow_setCell_other hp (ownsRow_block_ne (b := bs) hp hs (.inr (by decide))) _, hb.setCell (show B0 ≤ bs from lt) _, lt⟩
  rw [heap_setCell_self hs]
  simp [encBool, List.map_set]
theorem SMem.drewN {w0 w : World} {B0 bs : Nat} {seen : List Bool} {pv : Value} {post : List Nat} (h : SMem w0 w B0 bs seen pv post) (n : Nat) : SMem w0 (w.drewN n) B0 bs seen pv post := ⟨h.hs, h.hp, below_drewN h.hb, h.lt⟩

/-- What a search leaves alone. -/
structure ST (w w' : World) (bs : Nat) (pv pv' : Value) : Prop where
  size : w.heap.size ≤ w'.heap.size
  blk : ∀ k, k < w.heap.size → k ≠ bs → pv.ownBlock ≠ some k → w'.heap[k]? = w.heap[k]?
  own : ∀ k, pv'.ownBlock = some k → pv.ownBlock = some k ∨ w.heap.size ≤ k
theorem ST.trans {w w1 w2 : World} {bs : Nat} {a b c : Value} (h : ST w w1 bs a b) (k : ST w1 w2 bs b c) : ST w w2 bs a c :=
  ⟨Nat.le_trans h.size k.size, fun i h1 h2 h3 => (k.blk i (Nat.lt_of_lt_of_le h1 h.size) h2 (fun e => by rcases h.own i e with e | e; exact h3 e; omega)).trans (h.blk i h1 h2 h3),
    fun i e => by rcases k.own i e with e | e; exact h.own i e; right; have := h.size; omega⟩
theorem ST.box (w : World) (o : Obj) (bs : Nat) (v : Value) : ST w (w.alloc o) bs v v := ⟨by simp, fun k hk _ _ => Below.heap_alloc _ _ _ hk, fun _ e => .inl e⟩
theorem ST.mark (w : World) (bs n : Nat) (u v : Value) : ST w (w.setCell ⟨bs, n, none⟩ u) bs v v := ⟨by simp, fun k hk h _ => Below.heap_setCell _ _ _ _ h, fun _ e => .inl e⟩
theorem ST.drewN (w : World) (n bs : Nat) (v : Value) : ST w (w.drewN n) bs v v := ⟨Nat.le_refl _, fun _ _ _ _ => rfl, fun _ e => .inl e⟩

set_option maxRecDepth 100000 in
set_option maxHeartbeats 1600000 in
theorem search_any (w0 : World) (B0 bs : Nat) (g : List (List Nat)) (a : Option Addr) (cap : Nat) (hR : RowsOf encNat w0 B0 (.slice a g.length cap) g) (hv : ValidG g) (hn : g.length ≤ 2000000) (hr : ∀ row ∈ g, row.length ≤ 2000000) : ∀ (f : Nat) (w : World) (seen : List Bool) (pv : Value) (post : List Nat) (n : Nat),
    SMem w0 w B0 bs seen pv post → n < g.length → seen.length = g.length → seen[n]? = some false → unseen seen ≤ f → post.length + unseen seen ≤ 2000000 →
    Calls Try.prog 38 #[.agg #[.slice a g.length cap], .int .i64 (n : Int), .slice (some ⟨bs, 0, none⟩) g.length g.length, pv] w fun e w' => ∃ pv', e = .returned pv' ∧ SMem w0 w' B0 bs (visit g f (seen, post) n).1 pv' (visit g f (seen, post) n).2 ∧ ST w w' bs pv pv'
  | 0, w, seen, pv, post, n, hM, hng, hl, hs, hu, hp => by
    have := unseen_set hs; omega
  | f + 1, w, seen, pv, post, n, hM, hng, hl, hs, hu, hp => by
    obtain ⟨ap, cp, rfl⟩ := ownsRow_form hM.hp
    obtain ⟨R, hRR⟩ : ∃ R, R = visit g (f + 1) (seen, post) n := ⟨_, rfl⟩
    rw [← hRR]
    have HRR := Lib.hid hRR
    clear hRR
    have ih := search_any w0 B0 bs g a cap hR hv hn hr f
    have hM1 := hM.box (.cells #[.slice a g.length cap] 24)
    have cs : (w.alloc (.cells #[.slice a g.length cap] 24)).cell? ⟨bs, n, none⟩ = some (.bool false) := cell_of_blk hM1.hs (by simp [hs, encBool])
    have fs : (w.alloc (.cells #[.slice a g.length cap] 24)).frozen? ⟨bs, n, none⟩ = false := free_of_blk hM1.hs
    have hM2 := (hM.mark (n := n)).box (.cells #[.slice a g.length cap] 24)
    have HPV : Hid (∀ k, (Value.slice ap post.length cp).ownBlock = some k → k < w.heap.size) := fun k e => (hM.hp.lt k e).2
    have hni : (n : Int) < g.length := by omega
    have hbw : bs < w.heap.size := lt_of_block hM.hs
    have HM2 := Lib.hid hM2
    have HR := Lib.hid hR
    have HIH := Lib.hid ih
    clear hM1 hM2 hM hR ih
    go_enter Try.func38, Try.ntmps38
    obtain ⟨row, hrow⟩ : ∃ row, g[n]? = some row := ⟨_, List.getElem?_eq_getElem hng⟩
    have hsucc : succ g n = row := by unfold succ; rw [List.getD_eq_getElem?_getD, hrow]; rfl
    obtain ⟨bg, og, a2, cap2, rfl, hbg, hc, hcap2, hx⟩ := HR.out.row hrow
    have hrl := hr row (List.mem_of_getElem? hrow)
    have hST0 : ST w ((w.setCell ⟨bs, n, none⟩ (.bool true)).alloc (.cells #[.slice (some ⟨bg, og, none⟩) g.length cap] 24)) bs (.slice ap post.length cp) (.slice ap post.length cp) := (ST.mark w bs n _ _).trans (ST.box _ _ bs _)
    have hun := unseen_set hs
    have hbx : ((w.setCell ⟨bs, n, none⟩ (.bool true)).alloc (.cells #[.slice (some ⟨bg, og, none⟩) g.length cap] 24)).heap[w.heap.size]? = some (.cells #[.slice (some ⟨bg, og, none⟩) g.length cap] 24 (0, 0)) := new_at (by simp)
    have HROW := Lib.hid (And.intro hrow hsucc)
    have HX := Lib.hid hx
    have HC := Lib.hid hc
    have HST0 := Lib.hid hST0
    have HBX := Lib.hid hbx
    clear hrow hsucc hx hc hST0 hbx
    go_wp2
    go_loopw [3, 9] (fun v k wr => ∃ (j : Nat), j ≤ row.length ∧ k = .int .i64 (j : Int) ∧ Hid (SMem w0 wr B0 bs ((row.take j).foldl (visit1 g f) (seen.set n true, post)).1 v ((row.take j).foldl (visit1 g f) (seen.set n true, post)).2 ∧ ST w wr bs (.slice ap post.length cp) v ∧ wr.heap[w.heap.size]? = some (.cells #[.slice (some ⟨bg, og, none⟩) g.length cap] 24 (0, 0)) ∧ v.ownBlock ≠ some w.heap.size)) (fun _ k _ => row.length - (intOf k).toNat)
    case atStart => exact ⟨0, Nat.zero_le _, rfl, HM2.out, HST0.out, HBX.out, fun e => by have := HPV.out _ e; omega⟩
    case round =>
      obtain ⟨j, hj, rfl, HJ⟩ := hrel
      generalize hst : (row.take j).foldl (visit1 g f) (seen.set n true, post) = st at HJ
      obtain ⟨sn, ps⟩ := st
      dsimp only at HJ
      have HST := Lib.hid hst
      clear hst
      have hcg := cell_of_one HJ.out.2.2.1
      have hcr := (HJ.out.1.hb.cell (p := ⟨bg, og + n, none⟩) hbg).trans HC.out
      obtain ⟨av, cv, rfl⟩ := ownsRow_form HJ.out.1.hp
      have hb0 : w.heap.size < wr.heap.size := lt_of_block HJ.out.2.2.1
      by_cases hlt : (j : Int) < row.length
      · obtain ⟨s, hsj⟩ : ∃ s, row[j]? = some s := ⟨_, List.getElem?_eq_getElem (by omega)⟩
        have hsg : s < g.length := hv.2 row (List.mem_of_getElem? HROW.out.1) s (List.mem_of_getElem? hsj)
        obtain ⟨b2, o2, rfl, hb2, cs0⟩ := HX.out j s hsj
        have cs1 := (HJ.out.1.hb.cell (p := ⟨b2, o2 + j, none⟩) hb2).trans cs0
        simp only [encNat] at cs1
        have hstep : (row.take (j + 1)).foldl (visit1 g f) (seen.set n true, post) = visit1 g f (sn, ps) s := by
          rw [List.take_add_one, hsj, List.foldl_append, HST.out]; rfl
        have hfold : sn.length = g.length ∧ unseen sn ≤ f ∧ ps.length + unseen sn ≤ 2000000 := by
          have := fold_facts g f (row.take j) (seen.set n true, post)
          rw [HST.out] at this
          simp only [List.length_set] at this
          omega
        obtain ⟨b0, hb0s⟩ : ∃ b0, sn[s]? = some b0 := ⟨_, List.getElem?_eq_getElem (by omega)⟩
        have csn : wr.cell? ⟨bs, s, none⟩ = some (.bool b0) := cell_of_blk HJ.out.1.hs (by simp [hb0s, encBool])
        have hjj : (j : Int) ≤ row.length := by omega
        have hsj2 := hsj
        have hsg1 : (s : Int) < g.length := by omega
        have HSJ := Lib.hid (And.intro hstep (And.intro hfold hb0s))
        clear hstep hfold hb0s cs0 cs fs
        cases b0 with
        | true =>
          go_wp2
          go_roundw
          case rel => exact ⟨j + 1, by omega, by go_num, by rw [HSJ.out.1, show visit1 g f (sn, ps) s = (sn, ps) by unfold visit1; rw [if_pos (by rw [List.getD_eq_getElem?_getD, HSJ.out.2.2]; rfl)]]; exact HJ⟩
          case measure => simp [intOf]; omega
        | false =>
          have hcall : Calls Try.prog 38 #[.agg #[.slice (some ⟨bg, og, none⟩) g.length cap], .int .i64 (s : Int), .slice (some ⟨bs, 0, none⟩) g.length g.length, .slice av ps.length cv] wr.drew fun e w' => ∃ a7 c7, e = .returned (.slice a7 (visit g f (sn, ps) s).2.length c7) ∧
              w'.cell? ⟨w.heap.size, 0, none⟩ = some (.slice (some ⟨bg, og, none⟩) g.length cap) ∧ w'.cell? ⟨bg, og + n, none⟩ = some (.slice (some ⟨b2, o2, none⟩) row.length cap2) ∧ w'.cell? ⟨b2, o2 + j, none⟩ = some (.int .i64 (s : Int)) ∧
              Hid (SMem w0 w' B0 bs (visit g f (sn, ps) s).1 (.slice a7 (visit g f (sn, ps) s).2.length c7) (visit g f (sn, ps) s).2 ∧ ST wr w' bs (.slice av ps.length cv) (.slice a7 (visit g f (sn, ps) s).2.length c7)) := by
            refine (HIH.out wr.drew sn _ ps s ⟨HJ.out.1.hs, HJ.out.1.hp, HJ.out.1.hb.drew, HJ.out.1.lt⟩ hsg HSJ.out.2.1.1 HSJ.out.2.2 HSJ.out.2.1.2.1 HSJ.out.2.1.2.2).mono ?_
            rintro e w' ⟨pv', rfl, hm, hT⟩
            obtain ⟨a7, c7, rfl⟩ := ownsRow_form hm.hp
            have hT' : ST wr w' bs (.slice av ps.length cv) (.slice a7 (visit g f (sn, ps) s).2.length c7) := ⟨hT.size, hT.blk, hT.own⟩
            refine ⟨a7, c7, rfl, ?_, (hm.hb.cell (p := ⟨bg, og + n, none⟩) hbg).trans HC.out, ?_, hm, hT'⟩
            · exact cell_of_one ((hT'.blk _ hb0 (by omega) HJ.out.2.2.2).trans HJ.out.2.2.1)
            · obtain ⟨b3, o3, e3, _, h3⟩ := HX.out j s hsj2
              cases e3
              have := (hm.hb.cell (p := ⟨b2, o2 + j, none⟩) hb2).trans h3
              simpa [encNat] using this
          have HCALL := Lib.hid hcall
          clear hcall
          go_wp2
          go_region_held3 (fun w' => w'.cell? ⟨w.heap.size, 0, none⟩ = some (.slice (some ⟨bg, og, none⟩) g.length cap) ∧ w'.cell? ⟨bg, og + n, none⟩ = some (.slice (some ⟨b2, o2, none⟩) row.length cap2) ∧ w'.cell? ⟨b2, o2 + j, none⟩ = some (.int .i64 (s : Int)))
            (first
              | (go_split_ands; refine ⟨?_, ?_, ?_⟩ <;> assumption))
            ((go_at_call 38; refine HCALL.out.mono ?_; rintro e w7 ⟨a7, c7, rfl, k1, k2, k3, HS7⟩))
          all_goals
            go_wp2
            go_roundw
            case rel =>
              refine ⟨j + 1, by omega, by go_num, ?_⟩
              rw [HSJ.out.1, show visit1 g f (sn, ps) s = visit g f (sn, ps) s by unfold visit1; rw [if_neg (by rw [List.getD_eq_getElem?_getD, HSJ.out.2.2]; simp)]]
              have hb7 := (HS7.out.2.blk _ hb0 (by omega) HJ.out.2.2.2).trans HJ.out.2.2.1
              exact ⟨HS7.out.1, HJ.out.2.1.trans HS7.out.2, hb7, fun e => by rcases HS7.out.2.own _ e with h | h; exact HJ.out.2.2.2 h; omega⟩
            case measure => simp [intOf]; omega
      · obtain rfl : j = row.length := by omega
        obtain ⟨ii, hii, hzi0, hzi1, hzi2⟩ := info_parts Try.info_int
        have hst := HST.out
        rw [List.take_length] at hst
        have hfold : ps.length ≤ 2000000 := by
          have := fold_facts g f row (seen.set n true, post)
          rw [hst] at this
          simp only [List.length_set] at this
          omega
        have hv1 : visit g (f + 1) (seen, post) n = (sn, ps ++ [n]) := by rw [visit_succ, HROW.out.2, hst]
        have HRE := Lib.hid (HRR.out.trans hv1)
        clear hv1 hst cs fs
        go_wp2_with (at_builtin; go_must (refine wpList_append_lies _ rfl (.tmp 47) (.tmp 49) 29 rfl B0 3 ii (.int .i64 0) 1 8 Try.underlying29 hii hzi0 hzi1 hzi2 rfl (by decide) _ ps.length (ps.map encNat) rfl (HJ.out.1.hp.alloc _) ⟨wr.heap.size, 0, none⟩ 1 1 [.int .i64 (n : Int)] rfl rfl (World.news_of_block (cs := #[.int .i64 (n : Int)]) (new_at (by simp))) (by simp [Value.oneCell']) (by decide) (by unfold maxLen; omega) (by omega) (by have := lt_of_block HJ.out.1.hs; have := HJ.out.1.lt; simp; omega) (wr.heap.size + 1) (by simp) ?_; intro gq capq w6 hown6 hgrow6 hat6 hlt6; have HO6 := Lib.hid (And.intro hown6 hgrow6); clear hown6 hgrow6))
        go_ret
        obtain ⟨hown6, hgrow6⟩ := HO6.out
        have hs6 := grown_blk hgrow6 (alloc_blk HJ.out.1.hs) (ownsRow_block_ne (b := bs) HJ.out.1.hp HJ.out.1.hs (.inr (by decide)))
        have hbl := HJ.out.1.hb.size
        have hbsl := lt_of_block HJ.out.1.hs
        have hlt6 := HJ.out.1.lt
        rw [HRE.out]
        refine ⟨_, rfl, ⟨hs6, by simpa [encNat] using hown6, (HJ.out.1.hb.alloc (by omega) _).grown hgrow6 (by simp; omega) (fun k e => by have := (HJ.out.1.hp.lt k e).1; omega), hlt6⟩, HJ.out.2.1.trans ⟨?_, ?_, ?_⟩⟩
        · have := hgrow6.size; simp at this; omega
        · intro k hk _ hne
          rw [hgrow6.block k (by simp; omega) (fun e => hne e.symm), Below.heap_alloc _ _ _ hk]
        · intro k e
          have e : (Value.slice (some ⟨gq, 0, none⟩) (ps.length + 1) capq).ownBlock = some k := e
          simp only [Value.ownBlock, Option.some.injEq] at e
          subst e
          rcases hat6 with h | h
          · exact .inl h
          · right; omega
end Go.Proofs.Ytpfinkcnklkclaa
