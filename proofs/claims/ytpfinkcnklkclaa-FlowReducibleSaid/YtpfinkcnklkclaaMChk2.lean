/-
  Plain mathematics: rounds of the passes; they end; the chains are the dominators.
-/
import Derived.Test.YtpfinkcnklkclaaMChk
set_option linter.unusedVariables false
set_option linter.unusedSimpArgs false
namespace Go.Proofs.Ytpfinkcnklkclaa
section
variable {n : Nat} {ns : List Nat} {preds : List (List Nat)} {f : Int → Int} {at_ : Nat → Nat} {E : Nat → Nat → Prop}

theorem anc_congr {D D' : List Int} (h : WF n ns at_ D) {x z : Nat} (ha : Anc D x z) : IsSet D x → (∀ y ∈ 0 :: ns, at_ y ≤ at_ x → D[y]? = D'[y]?) → Anc D' x z := by
  induction ha with
  | refl x => exact fun _ _ => .refl x
  | @step x y z h1 h2 ih =>
    intro hs heq
    have hx := heq x (h.sub x hs) (Nat.le_refl _)
    have h3 := (h.anc_le (.step h1 (.refl y)) hs)
    have hle : at_ y ≤ at_ x := by rcases h3.1 with rfl | h4 <;> omega
    exact .step (hx ▸ h1) (ih h3.2 (fun u hu hle' => heq u hu (by omega)))

/-- A round's invariants. -/
structure RI (n : Nat) (ns : List Nat) (at_ : Nat → Nat) (E : Nat → Nat → Prop) (D : List Int) : Prop where
  wf : WF n ns at_ D
  all : ∀ x ∈ 0 :: ns, IsSet D x
  H : ∀ v ∈ ns, ∀ p, E p v → at_ p < at_ v → ∀ z, Anc D v z → z ≠ v → Anc D p z
  J : ∀ v ∈ ns, ∀ z, (∀ p, E p v → Anc D p z) → Anc D v z
  S : ∀ v ∈ 0 :: ns, ∀ z, Dom E z v → Anc D v z

/-- The state in between, seen from the new one. -/
theorem mix_iff {E1 D D' : List Int} {v : Nat} (h1 : WF n ns at_ E1) (h' : WF n ns at_ D') (ha : ∀ y ∈ 0 :: ns, at_ y < at_ v → E1[y]? = D'[y]?) {x : Nat} (hs : IsSet E1 x) (hs' : IsSet D' x) (hlt : at_ x < at_ v) (z : Nat) :
    Anc E1 x z ↔ Anc D' x z :=
  ⟨fun h => anc_congr h1 h hs (fun y hy hle => ha y hy (by omega)), fun h => anc_congr h' h hs' (fun y hy hle => (ha y hy (by omega)).symm)⟩

theorem ns_ne0 (hc : Ctx n ns preds f at_ E) {v : Nat} (hv : v ∈ ns) : v ≠ 0 := by rintro rfl; have := hc.pos 0 hv; rw [hc.z] at this; omega

theorem first_round (hc : Ctx n ns preds f at_ E) {D' : List Int} (h' : WF n ns at_ D') (hall : ∀ x ∈ 0 :: ns, IsSet D' x) (hp : PassOk ns at_ E n ns ((0 : Int) :: List.replicate (n - 1) (-1)) D') : RI n ns at_ E D' := by
  have hD0 : ∀ y : Nat, y ≠ 0 → ∀ w : Nat, ((0 : Int) :: List.replicate (n - 1) (-1))[y]? ≠ some (w : Int) := by
    intro y hy w
    cases y with
    | zero => exact absurd rfl hy
    | succ y =>
      rw [List.getElem?_cons_succ, List.getElem?_replicate]
      split
      · intro e; have := Option.some.inj e; omega
      · simp
  have key : ∀ v ∈ ns, ∃ dn : Nat, D'[v]? = some (dn : Int) ∧ at_ dn < at_ v ∧ ∀ z, Anc D' dn z ↔ ∀ p, E p v → at_ p < at_ v → Anc D' p z := by
    intro v hv
    obtain ⟨E1, dn, e1, e2, e3, e4, e5, e6, e7⟩ := hp v hv
    have hset : ∀ p ∈ 0 :: ns, at_ p < at_ v → IsSet E1 p := fun p hp hlt => by
      obtain ⟨y, hy⟩ := hall p hp
      exact ⟨y, by rw [e2 p hp hlt]; exact hy⟩
    refine ⟨dn, e4, e5, fun z => ?_⟩
    rw [← mix_iff (D := D') e1 h' e2 e6 (hall dn (e1.sub dn e6)) e5 z, e7]
    constructor
    · intro h p hpv hlt
      have hpo := (hc.eo _ _ hpv).1
      exact (mix_iff (D := D') e1 h' e2 (hset p hpo hlt) (hall p hpo) hlt z).1 (h p hpv (hset p hpo hlt))
    · intro h p hpv hs
      have hpo := (hc.eo _ _ hpv).1
      by_cases hlt : at_ p < at_ v
      · exact (mix_iff (D := D') e1 h' e2 hs (hall p hpo) hlt z).2 (h p hpv hlt)
      · obtain ⟨y, hy⟩ := hs
        rw [e3 p (by omega)] at hy
        by_cases hp0 : p = 0
        · subst hp0; rw [hc.z] at hlt; omega
        · exact absurd hy (hD0 p hp0 y)
  have hup : ∀ v ∈ ns, ∀ dn : Nat, D'[v]? = some (dn : Int) → ∀ z, Anc D' v z → z ≠ v → Anc D' dn z := by
    intro v hv dn hdn z hz hne
    cases hz with
    | refl _ => exact absurd rfl hne
    | @step _ y _ h1 h2 =>
      rw [hdn] at h1
      have : dn = y := by have := Option.some.inj h1; omega
      subst this; exact h2
  refine ⟨h', hall, ?_, ?_, ?_⟩
  · intro v hv p hpv hlt z hz hne
    obtain ⟨dn, k1, k2, k3⟩ := key v hv
    exact (k3 z).1 (hup v hv dn k1 z hz hne) p hpv hlt
  · intro v hv z hz
    obtain ⟨dn, k1, k2, k3⟩ := key v hv
    exact .step k1 ((k3 z).2 (fun p hpv _ => hz p hpv))
  · have hS : ∀ (m v : Nat), at_ v ≤ m → v ∈ 0 :: ns → ∀ z, Dom E z v → Anc D' v z := by
      intro m
      induction m with
      | zero =>
        intro v hm hv z hz
        rcases List.mem_cons.1 hv with rfl | hv
        · have := dom_of_zero hz; subst this; exact .refl _
        · have := hc.pos v hv; omega
      | succ m ih =>
        intro v hm hv z hz
        rcases List.mem_cons.1 hv with rfl | hv
        · have := dom_of_zero hz; subst this; exact .refl _
        · by_cases e : z = v
          · subst e; exact .refl _
          · obtain ⟨dn, k1, k2, k3⟩ := key v hv
            exact .step k1 ((k3 z).2 (fun p hpv hlt => ih p (by omega) (hc.eo _ _ hpv).1 z (dom_pred hz e hpv)))
    exact fun v hv z hz => hS _ v (Nat.le_refl _) hv z hz

theorem next_round (hc : Ctx n ns preds f at_ E) {D D' : List Int} (h : RI n ns at_ E D) (h' : WF n ns at_ D') (hall : ∀ x ∈ 0 :: ns, IsSet D' x) (hp : PassOk ns at_ E n ns D D') :
    RI n ns at_ E D' ∧ ∀ v ∈ 0 :: ns, ∀ z, Anc D' v z → Anc D v z := by
  have hset : ∀ v ∈ ns, ∀ E1 : List Int, (∀ y ∈ 0 :: ns, at_ y < at_ v → E1[y]? = D'[y]?) → (∀ y : Nat, at_ v ≤ at_ y → E1[y]? = D[y]?) → ∀ p ∈ 0 :: ns, IsSet E1 p := by
    intro v hv E1 e2 e3 p hp
    by_cases hlt : at_ p < at_ v
    · obtain ⟨y, hy⟩ := hall p hp; exact ⟨y, by rw [e2 p hp hlt]; exact hy⟩
    · obtain ⟨y, hy⟩ := h.all p hp; exact ⟨y, by rw [e3 p (by omega)]; exact hy⟩
  have L1 : ∀ v ∈ ns, ∀ E1 : List Int, WF n ns at_ E1 → (∀ y ∈ 0 :: ns, at_ y < at_ v → E1[y]? = D'[y]?) → (∀ y : Nat, at_ v ≤ at_ y → E1[y]? = D[y]?) → ∀ {p z : Nat}, Anc E1 p z → p ∈ 0 :: ns → at_ v ≤ at_ p →
      (at_ v ≤ at_ z ∧ Anc D p z) ∨ (at_ z < at_ v ∧ ∃ u ∈ 0 :: ns, Anc D p u ∧ at_ u < at_ v ∧ Anc D' u z) := by
    intro v hv E1 e1 e2 e3 p z ha
    induction ha with
    | refl p => exact fun _ hle => .inl ⟨hle, .refl _⟩
    | @step p c z h1 h2 ih =>
      intro hpo hle
      have hps : IsSet E1 p := ⟨c, h1⟩
      have hcs := (e1.anc_le (.step h1 (.refl c)) hps).2
      have hco := e1.sub c hcs
      have hD : D[p]? = some (c : Int) := by rw [← e3 p hle]; exact h1
      by_cases hlt : at_ c < at_ v
      · have hz := e1.le h2 hcs
        exact .inr ⟨by omega, c, hco, .step hD (.refl c), hlt, (mix_iff (D := D') e1 h' e2 hcs (hall c hco) hlt z).1 h2⟩
      · rcases ih hco (by omega) with ⟨a, b⟩ | ⟨a, u, b, b', b'', b'''⟩
        · exact .inl ⟨a, .step hD b⟩
        · exact .inr ⟨a, u, b, .step hD b', b'', b'''⟩
  have L2 : ∀ v ∈ ns, ∀ E1 : List Int, (∀ y : Nat, at_ v ≤ at_ y → E1[y]? = D[y]?) → ∀ {p z : Nat}, Anc D p z → IsSet D p → at_ v ≤ at_ p → at_ z < at_ v → ∃ u ∈ 0 :: ns, Anc D p u ∧ at_ u < at_ v ∧ Anc D u z ∧ Anc E1 p u := by
    intro v hv E1 e3 p z ha
    induction ha with
    | refl p => intro _ h1 h2; omega
    | @step p c z h1 h2 ih =>
      intro hps hle hlt
      have hcs := (h.wf.anc_le (.step h1 (.refl c)) hps).2
      have hE : E1[p]? = some (c : Int) := by rw [e3 p hle]; exact h1
      by_cases hl : at_ c < at_ v
      · exact ⟨c, h.wf.sub c hcs, .step h1 (.refl c), hl, h2, .step hE (.refl c)⟩
      · obtain ⟨u, a, b, b', b'', b'''⟩ := ih hcs (by omega) hlt
        exact ⟨u, a, .step h1 b, b', b'', .step hE b'''⟩
  have hup : ∀ {B : List Int} {v dn : Nat}, B[v]? = some (dn : Int) → ∀ {z : Nat}, Anc B v z → z ≠ v → Anc B dn z := by
    intro B v dn hdn z hz hne
    cases hz with
    | refl _ => exact absurd rfl hne
    | @step _ y _ h1 h2 =>
      rw [hdn] at h1
      have : dn = y := by have := Option.some.inj h1; omega
      subst this; exact h2
  have C : ∀ (m v : Nat), at_ v ≤ m → v ∈ 0 :: ns → (∀ z, Anc D' v z → Anc D v z) ∧ ∀ u, Anc D v u → ∀ z, Anc D' v z → at_ z ≤ at_ u → Anc D' u z := by
    intro m
    have base : (∀ z, Anc D' 0 z → Anc D 0 z) ∧ ∀ u, Anc D 0 u → ∀ z, Anc D' 0 z → at_ z ≤ at_ u → Anc D' u z :=
      ⟨fun z hz => by have := h'.anc0 hz; subst this; exact .refl _, fun u hu z hz _ => by have := h.wf.anc0 hu; subst this; exact hz⟩
    induction m with
    | zero =>
      intro v hm hv
      rcases List.mem_cons.1 hv with rfl | hv
      · exact base
      · have := hc.pos v hv; omega
    | succ m ih =>
      intro v hm hv
      rcases List.mem_cons.1 hv with rfl | hv
      · exact base
      · obtain ⟨E1, dn, e1, e2, e3, e4, e5, e6, e7⟩ := hp v hv
        have hvo : v ∈ 0 :: ns := by simp [hv]
        have hes := hset v hv E1 e2 e3
        obtain ⟨f0, hf0, hf1⟩ := hc.fw v hv
        have hall1 : ∀ z, Anc D' v z → z ≠ v → at_ z < at_ v ∧ ∀ p, E p v → Anc E1 p z := by
          intro z hz hne
          have h1 := hup e4 hz hne
          have hdo := e1.sub dn e6
          have h2 := h'.le h1 (hall dn hdo)
          exact ⟨by omega, fun p hpv => (e7 z).1 ((mix_iff (D := D') e1 h' e2 e6 (hall dn hdo) e5 z).2 h1) p hpv (hes p (hc.eo _ _ hpv).1)⟩
        refine ⟨fun z hz => ?_, fun u hu z hz hzu => ?_⟩
        · by_cases e : z = v
          · subst e; exact .refl _
          · obtain ⟨hzv, hzp⟩ := hall1 z hz e
            refine h.J v hv z (fun p hpv => ?_)
            have hpo := (hc.eo _ _ hpv).1
            by_cases hlt : at_ p < at_ v
            · exact (ih p (by omega) hpo).1 z ((mix_iff (D := D') e1 h' e2 (hes p hpo) (hall p hpo) hlt z).1 (hzp p hpv))
            · rcases L1 v hv E1 e1 e2 e3 (hzp p hpv) hpo (by omega) with ⟨a, _⟩ | ⟨_, u, b, b', b'', b'''⟩
              · omega
              · exact b'.trans ((ih u (by omega) b).1 z b''')
        · by_cases e : u = v
          · subst e; exact hz
          · have hzne : z ≠ v := by
              rintro rfl
              rcases (h.wf.anc_le hu (h.all z hvo)).1 with h1 | h1
              · exact e h1
              · omega
            obtain ⟨hzv, hzp⟩ := hall1 z hz hzne
            have hfo := (hc.eo _ _ hf0).1
            exact (ih f0 (by omega) hfo).2 u (h.H v hv f0 hf0 hf1 u hu e) z ((mix_iff (D := D') e1 h' e2 (hes f0 hfo) (hall f0 hfo) hf1 z).1 (hzp f0 hf0)) hzu
  have C1 : ∀ v ∈ 0 :: ns, ∀ z, Anc D' v z → Anc D v z := fun v hv => (C _ v (Nat.le_refl _) hv).1
  have C2 : ∀ v ∈ 0 :: ns, ∀ u, Anc D v u → ∀ z, Anc D' v z → at_ z ≤ at_ u → Anc D' u z := fun v hv => (C _ v (Nat.le_refl _) hv).2
  have SS : ∀ (m p : Nat), at_ p ≤ m → p ∈ 0 :: ns → ∀ u, Anc D p u → ∀ z, Dom E z p → at_ z ≤ at_ u → Dom E z u := by
    intro m
    induction m with
    | zero =>
      intro p hm hpo u hu z hz _
      rcases List.mem_cons.1 hpo with rfl | hv
      · have := h.wf.anc0 hu; subst this; exact hz
      · have := hc.pos p hv; omega
    | succ m ih =>
      intro p hm hpo u hu z hz hzu
      rcases List.mem_cons.1 hpo with rfl | hv
      · have := h.wf.anc0 hu; subst this; exact hz
      · by_cases e : u = p
        · subst e; exact hz
        · obtain ⟨f0, hf0, hf1⟩ := hc.fw p hv
          have hzne : z ≠ p := by
            rintro rfl
            rcases (h.wf.anc_le hu (h.all z hpo)).1 with h1 | h1
            · exact e h1
            · omega
          exact ih f0 (by omega) (hc.eo _ _ hf0).1 u (h.H p hv f0 hf0 hf1 u hu e) z (dom_pred hz hzne hf0) hzu
  refine ⟨⟨h', hall, ?_, ?_, ?_⟩, C1⟩
  · intro v hv p hpv hlt z hz hne
    obtain ⟨E1, dn, e1, e2, e3, e4, e5, e6, e7⟩ := hp v hv
    have hes := hset v hv E1 e2 e3
    have hdo := e1.sub dn e6
    have hpo := (hc.eo _ _ hpv).1
    have h1 := (mix_iff (D := D') e1 h' e2 e6 (hall dn hdo) e5 z).2 (hup e4 hz hne)
    exact (mix_iff (D := D') e1 h' e2 (hes p hpo) (hall p hpo) hlt z).1 ((e7 z).1 h1 p hpv (hes p hpo))
  · intro v hv z hz
    obtain ⟨E1, dn, e1, e2, e3, e4, e5, e6, e7⟩ := hp v hv
    have hes := hset v hv E1 e2 e3
    have hdo := e1.sub dn e6
    obtain ⟨f0, hf0, hf1⟩ := hc.fw v hv
    have hz0 := h'.le (hz f0 hf0) (hall f0 (hc.eo _ _ hf0).1)
    refine .step e4 ((mix_iff (D := D') e1 h' e2 e6 (hall dn hdo) e5 z).1 ((e7 z).2 (fun p hpv _ => ?_)))
    have hpo := (hc.eo _ _ hpv).1
    by_cases hlt : at_ p < at_ v
    · exact (mix_iff (D := D') e1 h' e2 (hes p hpo) (hall p hpo) hlt z).2 (hz p hpv)
    · obtain ⟨u, b, b', b'', b3, b4⟩ := L2 v hv E1 e3 (C1 p hpo z (hz p hpv)) (h.all p hpo) (by omega) (by omega)
      have h1 := C2 p hpo u b' z (hz p hpv) (h.wf.le b3 (h.all u b))
      exact b4.trans ((mix_iff (D := D') e1 h' e2 (hes u b) (hall u b) b'' z).2 h1)
  · have hS : ∀ (m v : Nat), at_ v ≤ m → v ∈ 0 :: ns → ∀ z, Dom E z v → Anc D' v z := by
      intro m
      induction m with
      | zero =>
        intro v hm hv z hz
        rcases List.mem_cons.1 hv with rfl | hv
        · have := dom_of_zero hz; subst this; exact .refl _
        · have := hc.pos v hv; omega
      | succ m ih =>
        intro v hm hv z hz
        rcases List.mem_cons.1 hv with rfl | hv
        · have := dom_of_zero hz; subst this; exact .refl _
        · by_cases e : z = v
          · subst e; exact .refl _
          · obtain ⟨E1, dn, e1, e2, e3, e4, e5, e6, e7⟩ := hp v hv
            have hes := hset v hv E1 e2 e3
            have hdo := e1.sub dn e6
            obtain ⟨f0, hf0, hf1⟩ := hc.fw v hv
            have hf0o := (hc.eo _ _ hf0).1
            have hz0 := h'.le (ih f0 (by omega) hf0o z (dom_pred hz e hf0)) (hall f0 hf0o)
            refine .step e4 ((mix_iff (D := D') e1 h' e2 e6 (hall dn hdo) e5 z).1 ((e7 z).2 (fun p hpv _ => ?_)))
            have hpo := (hc.eo _ _ hpv).1
            have hzp := dom_pred hz e hpv
            by_cases hlt : at_ p < at_ v
            · exact (mix_iff (D := D') e1 h' e2 (hes p hpo) (hall p hpo) hlt z).2 (ih p (by omega) hpo z hzp)
            · obtain ⟨u, b, b', b'', b3, b4⟩ := L2 v hv E1 e3 (h.S p hpo z hzp) (h.all p hpo) (by omega) (by omega)
              have h1 := SS _ p (Nat.le_refl _) hpo u b' z hzp (h.wf.le b3 (h.all u b))
              exact b4.trans ((mix_iff (D := D') e1 h' e2 (hes u b) (hall u b) b'' z).2 (ih u (by omega) b z h1))
    exact fun v hv z hz => hS _ v (Nat.le_refl _) hv z hz

/-- The measure: positions of the immediate dominators. -/
def meas (at_ : Nat → Nat) (ns : List Nat) (D : List Int) : Nat := (ns.map fun x => at_ (D.getD x 0).toNat).sum
theorem sum_le (g g' : Nat → Nat) : ∀ (l : List Nat), (∀ x ∈ l, g' x ≤ g x) → (l.map g').sum ≤ (l.map g).sum ∧ ((∃ x ∈ l, g' x < g x) → (l.map g').sum < (l.map g).sum)
  | [], _ => ⟨Nat.le_refl _, fun ⟨x, hx, _⟩ => by simp at hx⟩
  | a :: l, h => by
    obtain ⟨h1, h2⟩ := sum_le g g' l (fun x hx => h x (by simp [hx]))
    have h3 := h a (by simp)
    simp only [List.map_cons, List.sum_cons]
    refine ⟨by omega, fun ⟨x, hx, hlt⟩ => ?_⟩
    rcases List.mem_cons.1 hx with rfl | hx
    · omega
    · have := h2 ⟨x, hx, hlt⟩; omega

theorem rounds_end (hc : Ctx n ns preds f at_ E) : ∀ (m : Nat) (D : List Int), meas at_ ns D ≤ m → RI n ns at_ E D → ∃ k D', DomR preds f ns k D D' ∧ RI n ns at_ E D' ∧ PassOk ns at_ E n ns D' D' := by
  intro m
  induction m using Nat.strongRecOn with
  | _ m IH =>
    intro D hm h
    obtain ⟨D', ch, c1, c2, c3, c4, c5, c6, c7⟩ := pass_ok hc ns D false h.wf (fun v hv => hv) hc.sorted (by
      intro x hx hm
      rcases List.mem_cons.1 hx with rfl | hx
      · exact ⟨h.wf.set0, fun v hv => by rw [hc.z]; exact hc.pos v hv⟩
      · exact absurd hx hm)
    obtain ⟨hri, hsub⟩ := next_round hc h c2 c5 c4
    cases ch with
    | false =>
      obtain ⟨_, rfl⟩ := c6 rfl
      exact ⟨1, D', ⟨D', false, c1, .inl ⟨rfl, rfl⟩⟩, hri, c4⟩
    | true =>
      have hne : D' ≠ D := by rcases c7 rfl with h1 | h1; simp at h1; exact h1
      have hval : ∀ x ∈ ns, ∃ y y' : Nat, D[x]? = some (y : Int) ∧ D'[x]? = some (y' : Int) ∧ (y' = y ∨ at_ y' < at_ y) := by
        intro x hx
        have hxo : x ∈ 0 :: ns := by simp [hx]
        obtain ⟨y, hy⟩ := h.all x hxo
        obtain ⟨y', hy'⟩ := c5 x hxo
        refine ⟨y, y', hy, hy', ?_⟩
        have h1 := hsub x hxo y' (.step hy' (.refl _))
        have h2 := (c2.up x y' (ns_ne0 hc hx) hy').1
        have h5 := (h.wf.up x y (ns_ne0 hc hx) hy).2
        cases h1 with
        | refl _ => omega
        | @step _ w _ h3 h4 =>
          rw [hy] at h3
          have : y = w := by have := Option.some.inj h3; omega
          subst this
          exact (h.wf.anc_le h4 h5).1
      have hget : ∀ (B : List Int) (x y : Nat), B[x]? = some (y : Int) → (B.getD x 0).toNat = y := fun B x y hy => by rw [List.getD_eq_getElem?_getD, hy]; simp
      have hlt : meas at_ ns D' < meas at_ ns D := by
        refine (sum_le _ _ ns (fun x hx => ?_)).2 ?_
        · obtain ⟨y, y', h1, h2, h3⟩ := hval x hx
          rw [hget D x y h1, hget D' x y' h2]
          rcases h3 with rfl | h3 <;> omega
        · by_cases hex : ∃ x ∈ ns, D'[x]? ≠ D[x]?
          · obtain ⟨x, hx, hxe⟩ := hex
            obtain ⟨y, y', h1, h2, h3⟩ := hval x hx
            refine ⟨x, hx, ?_⟩
            rw [hget D x y h1, hget D' x y' h2]
            rcases h3 with rfl | h3
            · exact absurd (h2.trans h1.symm) hxe
            · exact h3
          · refine absurd (List.ext_getElem? fun i => ?_) hne
            by_cases hi : i ∈ ns
            · by_cases he : D'[i]? = D[i]?
              · exact he
              · exact absurd ⟨i, hi, he⟩ hex
            · exact c3 i hi
      obtain ⟨k, D2, r1, r2, r3⟩ := IH (meas at_ ns D') (by omega) D' (Nat.le_refl _) hri
      exact ⟨k + 1, D2, ⟨D', true, c1, .inr ⟨rfl, r1⟩⟩, r2, r3⟩

/-- The passes end, and the chains are the dominators. -/
theorem chk (hc : Ctx n ns preds f at_ E) : ∃ k D, DomR preds f ns k ((0 : Int) :: List.replicate (n - 1) (-1)) D ∧ WF n ns at_ D ∧ (∀ x ∈ 0 :: ns, IsSet D x) ∧ ∀ x ∈ 0 :: ns, ∀ z, Anc D x z ↔ Dom E z x := by
  have hn : 0 < n := hc.lt 0 (by simp)
  have h0 : WF n ns at_ ((0 : Int) :: List.replicate (n - 1) (-1)) := by
    have hD0 : ∀ (y : Nat) (w : Int), y ≠ 0 → ((0 : Int) :: List.replicate (n - 1) (-1))[y]? = some w → w = -1 := by
      intro y w hy
      cases y with
      | zero => exact absurd rfl hy
      | succ y =>
        rw [List.getElem?_cons_succ, List.getElem?_replicate]
        split
        · intro e; exact (Option.some.inj e).symm
        · simp
    refine ⟨by simp; omega, rfl, fun x y hx hy => ?_, fun x v hv => ?_, fun x hx => ?_⟩
    · have := hD0 x _ hx hy; omega
    · by_cases e : x = 0
      · subst e; exact .inr ⟨0, by simpa using hv.symm⟩
      · exact .inl (hD0 x v e hv)
    · by_cases e : x = 0
      · simp [e]
      · obtain ⟨y, hy⟩ := hx; have := hD0 x _ e hy; omega
  obtain ⟨D', ch, c1, c2, c3, c4, c5, c6, c7⟩ := pass_ok hc ns _ false h0 (fun v hv => hv) hc.sorted (by
      intro x hx hm
      rcases List.mem_cons.1 hx with rfl | hx
      · exact ⟨h0.set0, fun v hv => by rw [hc.z]; exact hc.pos v hv⟩
      · exact absurd hx hm)
  have h1 := first_round hc c2 c5 c4
  have hfin : ∃ k D, DomR preds f ns k ((0 : Int) :: List.replicate (n - 1) (-1)) D ∧ RI n ns at_ E D ∧ PassOk ns at_ E n ns D D := by
    cases ch with
    | false =>
      obtain ⟨_, rfl⟩ := c6 rfl
      exact ⟨1, _, ⟨_, false, c1, .inl ⟨rfl, rfl⟩⟩, h1, c4⟩
    | true =>
      obtain ⟨k, D, r1, r2, r3⟩ := rounds_end hc _ D' (Nat.le_refl _) h1
      exact ⟨k + 1, D, ⟨D', true, c1, .inr ⟨rfl, r1⟩⟩, r2, r3⟩
  obtain ⟨k, D, r1, r2, r3⟩ := hfin
  refine ⟨k, D, r1, r2.wf, r2.all, fun x hx z => ⟨fun ha => ?_, r2.S x hx z⟩⟩
  have key : ∀ {y : Nat}, Walk E (· ≠ z) 0 y → y ∈ 0 :: ns ∧ ¬ Anc D y z := by
    intro y hw
    induction hw with
    | refl h => exact ⟨by simp, fun ha => h (r2.wf.anc0 ha).symm⟩
    | @snoc b c _ h2 h3 ih =>
      have hco := (hc.eo _ _ h2).2
      refine ⟨hco, fun ha => ?_⟩
      rcases List.mem_cons.1 hco with rfl | hcn
      · exact h3 (r2.wf.anc0 ha).symm
      · obtain ⟨E1, dn, e1, e2, e3, e4, e5, e6, e7⟩ := r3 c hcn
        have heq : ∀ y ∈ 0 :: ns, E1[y]? = D[y]? := fun y hy => by
          by_cases hl : at_ y < at_ c
          · exact e2 y hy hl
          · exact e3 y (by omega)
        have hbo := (hc.eo _ _ h2).1
        have hbs : IsSet E1 b := by obtain ⟨y, hy⟩ := r2.all b hbo; exact ⟨y, by rw [heq b hbo]; exact hy⟩
        have h5 : Anc D dn z := by
          cases ha with
          | refl _ => exact absurd rfl h3
          | @step _ w _ h6 h7 =>
            rw [e4] at h6
            have : dn = w := by have := Option.some.inj h6; omega
            subst this; exact h7
        have h8 := (e7 z).1 (anc_congr r2.wf h5 (r2.all dn (e1.sub dn e6)) (fun y hy _ => (heq y hy).symm)) b h2 hbs
        exact ih.2 (anc_congr e1 h8 hbs (fun y hy _ => heq y hy))
  exact fun hw => (key hw).2 ha
end
end Go.Proofs.Ytpfinkcnklkclaa
