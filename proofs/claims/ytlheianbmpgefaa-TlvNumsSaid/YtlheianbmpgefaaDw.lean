/- A statement whose last two operations Go may run in either order. Words of our own. -/
import Derived.Test.YtlheianbmpgefaaDd
namespace Go.Proofs.Ytlheianbmpgefaa
open Go
set_option linter.unusedSimpArgs false
set_option linter.unusedVariables false
structure Shape0 (ops : Array Oper) (tail : List Nat) (E : Env) (n : Nat) : Prop where
  ord : ordered 0 ops.toList = true
  dst : ∀ (i : Nat) (o : Oper) (d : Nat), ops[i]? = some o → i ∉ tail → o.dst = some d → d < n ∧ d ∉ E.map (·.1) ∧ ∀ (j : Nat) (p : Oper), ops[j]? = some p → j ∉ tail → p.dst = some d → i = j
  last : ∀ t ∈ tail, t < ops.size ∧ ∀ i, i < ops.size → i ∉ tail → reach (befs ops.toList []) i t = true
def chk0 (ops : List Oper) (tail : List Nat) (keys : List Nat) (n : Nat) : Bool :=
  let ms := befs ops []
  ordered 0 ops && (List.range ops.length).all (fun i => has tail i || match (ops[i]?).bind (·.dst) with
    | none => true
    | some d => Nat.blt d n && !has keys d && (List.range ops.length).all fun j => Nat.beq i j || has tail j || !eqD ((ops[j]?).bind (·.dst)) d) &&
  tail.all (fun t => Nat.blt t ops.length && (List.range ops.length).all fun i => has tail i || reach ms i t)
section
variable {P : Program} {n : Nat} {w0 : World} {ops : Array Oper} {tail : List Nat} {E : Env} {A : Asn} {K : Act → World → Prop}
theorem Shape0.of_chk {l : List Oper} (h : chk0 l tail (E.map (·.1)) n = true) : Shape0 l.toArray tail E n := by
  simp only [chk0, Bool.and_eq_true] at h
  obtain ⟨⟨h1, h2⟩, h3⟩ := h
  refine ⟨by simpa using h1, ?_, ?_⟩
  · intro i o d ho ht hd
    have hi : i < l.length := by simpa using (Array.getElem?_eq_some_iff.1 ho).1
    have h := List.all_eq_true.1 h2 i (by simpa using hi)
    rw [Bool.or_eq_true] at h
    rcases h with h | h
    · exact absurd (has_iff.1 h) ht
    · have ho2 : l[i]? = some o := by simpa using ho
      rw [ho2, Option.bind_some, hd] at h
      simp only [Bool.and_eq_true, Bool.not_eq_true'] at h
      obtain ⟨⟨a1, a2⟩, a3⟩ := h
      refine ⟨Nat.le_of_ble_eq_true a1, fun hm => ?_, fun j p hp hj hpd => ?_⟩
      · rw [has_iff.2 hm] at a2
        cases a2
      · have hj2 : j < l.length := by simpa using (Array.getElem?_eq_some_iff.1 hp).1
        have h := List.all_eq_true.1 a3 j (by simpa using hj2)
        have hp2 : l[j]? = some p := by simpa using hp
        rw [hp2, Option.bind_some, hpd] at h
        simp only [Bool.or_eq_true, Bool.not_eq_true'] at h
        rcases h with (h | h) | h
        · exact Nat.eq_of_beq_eq_true h
        · exact absurd (has_iff.1 h) hj
        · simp [eqD] at h
  · intro t ht
    have h := List.all_eq_true.1 h3 t ht
    rw [Bool.and_eq_true] at h
    refine ⟨by have := Nat.le_of_ble_eq_true h.1; simp; omega, fun i hi hn => ?_⟩
    have h5 := List.all_eq_true.1 h.2 i (by simpa using hi)
    rw [Bool.or_eq_true] at h5
    rcases h5 with h5 | h5
    · exact absurd (has_iff.1 h5) hn
    · simpa using h5
theorem InvD.next0 (sh : Shape0 ops tail E n) {known known' : List (Nat × Value)} {Pk L Pk' L' : Asn} {dl : Dl} {ea ea' : Nat → Option Value} {listed : Array Bool} {a : Act} {w w' : World} (h : InvD P n w0 ops tail E A known Pk L dl ea listed a w) {i : Nat} {o : Oper} {v : Value}
    (hi : listed[i]? = some false) (ho : ops[i]? = some o) (hr : ∀ j ∈ aft o, lis listed j) (ht : i ∉ tail) (hin : vof known' i = some v ∨ i ∈ keysD dl) (hsub : ∀ j u, vof known j = some u → vof known' j = some u)
    (hback : ∀ j u, vof known' j = some u → (j = i → u = v) ∧ (j ≠ i → vof known j = some u)) (hea : i ∈ keysD dl → ea' i = some v) (heo : ∀ j, j ≠ i → ea' j = ea j) (hdk : ∀ j, j ∈ keysD dl → vof known' j = none)
    (hP : ∃ N, Pk' = Pk * N) (hs : Sat w0 w' (A * Pk' * L' * early ea' dl)) : InvD P n w0 ops tail E A known' Pk' L' dl ea' (listed.setIfInBounds i true) (a.put o.dst v) w' := by
  have hlt := (Array.getElem?_eq_some_iff.1 hi).1
  have hlis : ∀ j, lis (listed.setIfInBounds i true) j ↔ j = i ∨ lis listed j := by
    intro j
    unfold lis
    by_cases e : i = j
    · subst e
      simp [hlt]
    · rw [Array.getElem?_setIfInBounds_ne e]
      constructor
      · exact .inr
      · rintro (rfl | h)
        · exact absurd rfl e
        · exact h
  have hput : ∀ (j : Nat) (q : Oper) (d : Nat), ops[j]? = some q → j ∉ tail → j ≠ i → q.dst = some d → (a.put o.dst v).tmps.getD d undef = a.tmps.getD d undef := by
    intro j q d hq hj hne hd
    cases hod : o.dst with
    | none => rfl
    | some e =>
      have hde : e ≠ d := by
        rintro rfl
        exact hne ((sh.dst i o e ho ht hod).2.2 j q hq hj hd).symm
      simp only [Act.put, Array.getD_eq_getD_getElem?]
      rw [Array.getElem?_setIfInBounds_ne hde]
  have hown : ∀ d, o.dst = some d → (a.put o.dst v).tmps.getD d undef = v := by
    intro d hd
    have hdn := (sh.dst i o d ho ht hd).1
    simp [hd, Act.put, Array.getD_eq_getD_getElem?, h.ev.size, hdn]
  refine ⟨by simpa using h.size, ?_, hs, ?_, ?_, h.nd, ?_, ?_, ?_⟩
  · cases hod : o.dst with
    | none => exact h.ev
    | some d =>
      obtain ⟨hdn, hdE, _⟩ := sh.dst i o d ho ht hod
      refine ⟨h.ev.defers, by simp [Act.put, h.ev.size], fun t u hl => ?_⟩
      have hne : d ≠ t := by
        rintro rfl
        exact hdE (lk_key hl)
      have := h.ev.look t u hl
      simp only [Act.put, Array.getD_eq_getD_getElem?] at *
      rw [Array.getElem?_setIfInBounds_ne hne]
      exact this
  · intro j u hj
    by_cases e : j = i
    · subst e
      obtain rfl := (hback j u hj).1 rfl
      exact ⟨ht, o, ho, fun _ d hd => hown d hd, fun hn => absurd ((hlis j).2 (.inl rfl)) hn⟩
    · have hk := (hback j u hj).2 e
      obtain ⟨h1, q, hq, h2, h3⟩ := h.kn j u hk
      refine ⟨h1, q, hq, fun hl d hd => ?_, fun hn => ?_⟩
      · rw [hput j q d hq h1 e hd]
        exact h2 (((hlis j).1 hl).resolve_left e) d hd
      · obtain ⟨kn, Pk0, N, a1, a2, a3⟩ := h3 (fun hl => hn ((hlis j).2 (.inr hl)))
        obtain ⟨N', rfl⟩ := hP
        exact ⟨kn, Pk0, N * N', fun j u hj => hsub j u (a1 j u hj), by rw [a2, sep_assoc], a3⟩
  · intro j F hj
    obtain ⟨h1, h0, q, hq, h2, h3⟩ := h.dd j F hj
    have hjk : j ∈ keysD dl := List.mem_map.2 ⟨(j, F), hj, rfl⟩
    refine ⟨h1, hdk j hjk, q, hq, fun hl => ?_, fun hn => ?_⟩
    · by_cases e : j = i
      · subst e
        rw [ho] at hq
        obtain rfl := Option.some.inj hq
        exact ⟨v, hea hjk, hown⟩
      · obtain ⟨u, hu, hs⟩ := h2 (((hlis j).1 hl).resolve_left e)
        exact ⟨u, by rw [heo j e, hu], fun d hd => by rw [hput j q d hq h1 e hd]; exact hs d hd⟩
    · obtain ⟨kn, Pk0, N, a1, a2, a3⟩ := h3 (fun hl => hn ((hlis j).2 (.inr hl)))
      obtain ⟨N', rfl⟩ := hP
      exact ⟨kn, Pk0, N * N', fun j u hj => hsub j u (a1 j u hj), by rw [a2, sep_assoc], a3⟩
  · intro j hj
    have hne : j ≠ i := fun e => hj ((hlis j).2 (.inl e))
    rw [heo j hne]
    exact h.en j fun hl => hj ((hlis j).2 (.inr hl))
  · intro j hj
    rcases (hlis j).1 hj with rfl | hj
    · exact hin.imp (fun h => ⟨v, h⟩) id
    · exact (h.li j hj).imp (fun ⟨u, hu⟩ => ⟨u, hsub j u hu⟩) id
  · intro j q hj hq x hx
    rw [hlis]
    rcases (hlis j).1 hj with rfl | hj
    · rw [ho] at hq
      obtain rfl := Option.some.inj hq
      exact .inr (hr x hx)
    · exact .inr (h.cl j q hj hq x hx)
theorem draw_soundD0 (sh : Shape0 ops tail E n) (l0 : List Nat) (hto : ∀ (f : Nat) (listed : Array Bool) (l : List Nat), Ok ops f listed l → l <:+ l0 → listed.size = ops.size → listed.toList.count false ≤ f → (∀ i, i < ops.size → (lis listed i ↔ i ∉ tail)) → l = tail) : ∀ (f : Nat) (listed : Array Bool) (l : List Nat), Ok ops f listed l → l <:+ l0 → listed.toList.count false ≤ f → ∀ known Pk L dl ea a w, InvD P n w0 ops tail E A known Pk L dl ea listed a w → Sd P n w0 ops tail E A K known Pk L dl → wpOps P ops (Qk K) l a w := by
  intro f listed l hok
  have fin : ∀ (f : Nat) (listed : Array Bool) (l : List Nat), Ok ops f listed l → l <:+ l0 → listed.toList.count false ≤ f → ∀ known Pk L ea a w, InvD P n w0 ops tail E A known Pk L [] ea listed a w → 
      (∀ i, i < ops.size → (lis listed i ↔ i ∉ tail)) → RunL P n w0 ops (tail.filterMap fun i => ops[i]?) K (allE ops known ++ E) (A * Pk * L) → wpOps P ops (Qk K) l a w := by
    intro f listed l hok hsf hc known Pk L ea a w inv hli hrun
    have hl : l = tail := hto f listed l hok hsf inv.size hc hli
    subst hl
    have hlo : l.map (fun i => ops[i]?) = (l.filterMap fun i => ops[i]?).map some := by
      have : ∀ r : List Nat, (∀ t ∈ r, t < ops.size) → r.map (fun i => ops[i]?) = (r.filterMap fun i => ops[i]?).map some := by
        intro r
        induction r with
        | nil => intro _; rfl
        | cons t r ih =>
          intro h
          have ht : ops[t]? = some (ops[t]'(h t (by simp))) := Array.getElem?_eq_getElem (h t (by simp))
          simp only [List.map_cons, List.filterMap_cons, ht]
          rw [ih fun u hu => h u (by simp [hu])]
      exact this l fun t ht => (sh.last t ht).1
    rw [wpOps_list l _ hlo]
    have hsat := inv.sat
    simp only [early] at hsat
    rw [sep_emp] at hsat
    refine hrun.out a w (Ev.app (fun p hp => ?_) inv.ev) hsat
    obtain ⟨⟨i, u⟩, hi, e⟩ := List.mem_filterMap.1 hp
    simp only at e
    cases h1 : (ops[i]?).bind (·.dst) with
    | none => simp [h1] at e
    | some d =>
      cases h2 : vof known i with
      | none => simp [h1, h2] at e
      | some v =>
        simp [h1, h2] at e
        subst e
        obtain ⟨hnt, q, hq, hs, _⟩ := inv.kn i v h2
        rw [hq, Option.bind_some] at h1
        exact hs ((hli i (Array.getElem?_eq_some_iff.1 hq).1).2 hnt) d h1
  have ends : ∀ (listed : Array Bool), (∀ i, i < ops.size → lis listed i) → ∀ (f : Nat), Ok ops f listed [] → listed.toList.count false ≤ f → ∀ known Pk L dl ea a w, InvD P n w0 ops tail E A known Pk L dl ea listed a w → Sd P n w0 ops tail E A K known Pk L dl → wpOps P ops (Qk K) [] a w := by
    intro listed hall f hok hc known Pk L dl ea a w inv st
    obtain ⟨known', Pk', dl', inv', nd⟩ := st.node inv
    cases nd with
    | take i F hnl hrest k =>
      obtain ⟨_, _, o, ho, _⟩ := inv'.dd i F (by simp)
      exact absurd (hall i (Array.getElem?_eq_some_iff.1 ho).1) hnl
    | chain c o R hi hn hd hm ht hrest h k hP => exact absurd (hall c (Array.getElem?_eq_some_iff.1 hi).1) (inv'.fresh hn hd)
    | tail hall2 h =>
      refine fin f listed [] hok List.nil_suffix hc known' Pk' L ea a w inv' (fun i hi => ⟨fun _ hm => ?_, fun _ => hall i hi⟩) h
      rcases inv'.li i (hall i hi) with ⟨v, hv⟩ | hk
      · exact (inv'.kn i v hv).1 hm
      · simp [keysD] at hk
  induction hok with
  | zero listed => intro _ hc known Pk L dl ea a w inv st; exact ends listed (fun i hi => count_all hc i (by have := inv.size; omega)) 0 (.zero _) hc known Pk L dl ea a w inv st
  | stop f listed h => intro _ hc known Pk L dl ea a w inv st; exact ends listed (all_listed sh.ord inv.size h) f (.stop f listed h) hc known Pk L dl ea a w inv st
  | step f i o listed l hi ho hr kk ih =>
    intro hsf hc known Pk L dl ea a w inv st
    have hsf' := (List.suffix_cons i l).trans hsf
    have hc' : (listed.setIfInBounds i true).toList.count false ≤ f := by
      have := count_set listed.toList i (by simpa using hi)
      simp
      omega
    obtain ⟨known', Pk', dl', inv', nd⟩ := st.node inv
    have hni : ¬ lis listed i := by unfold lis; rw [hi]; simp
    have hisz := (Array.getElem?_eq_some_iff.1 ho).1
    have hdk : ∀ j, j ∈ keysD dl' → vof known' j = none := fun j hj => by
      obtain ⟨⟨j, F⟩, hm, rfl⟩ := List.mem_map.1 hj
      exact (inv'.dd j F hm).2.1
    cases hk : vof known' i with
    | some v =>
      have hid : i ∉ keysD dl' := fun hm => by rw [hdk i hm] at hk; cases hk
      obtain ⟨hnt, q, hq, _, hp⟩ := inv'.kn i v hk
      rw [ho] at hq
      obtain rfl := Option.some.inj hq
      obtain ⟨kn, Pk0, N, hsub, rfl, hp2⟩ := hp hni
      have hev := inv'.dep hr hsub
      have hbk : ∀ j u, vof known' j = some u → (j = i → u = v) ∧ (j ≠ i → vof known' j = some u) := fun j u hj => ⟨fun e => by subst e; rw [hk] at hj; exact (Option.some.inj hj).symm, fun _ => hj⟩
      rcases hp2 with ⟨hm, hq⟩ | ⟨hm, rfl⟩
      · have hw := inv'.wants hr hsub hm
        simp only [wpOps, ho, hw, if_true]
        left
        have hsat : Sat w0 w (A * Pk0 * (N * L * early ea dl')) := inv'.sat.conv (by ac_rfl)
        refine hq.out a w (N * L * early ea dl') _ _ hev hsat fun w' hs => ?_
        exact ih hsf' hc' known' (Pk0 * N) L dl' ea _ w' (inv'.next0 sh hi ho hr hnt (.inl hk) (fun _ _ h => h) hbk (fun h => absurd h hid) (fun _ _ => rfl) hdk ⟨emp, (sep_emp _).symm⟩ (hs.conv (by ac_rfl))) nd.sd
      · have hw := inv'.wants hr hsub hm
        simp only [wpOps, ho, hw, Bool.false_eq_true, if_false]
        exact ih hsf' hc' known' (Pk0 * N) L dl' ea _ w (inv'.next0 sh hi ho hr hnt (.inl hk) (fun _ _ h => h) hbk (fun h => absurd h hid) (fun _ _ => rfl) hdk ⟨emp, (sep_emp _).symm⟩ inv'.sat) nd.sd
    | none =>
      by_cases hid : i ∈ keysD dl'
      · obtain ⟨⟨i', F⟩, hmem, e⟩ := List.mem_map.1 hid
        simp only at e
        subst e
        obtain ⟨hnt, _, q, hq, _, hp⟩ := inv'.dd i' F hmem
        rw [ho] at hq
        obtain rfl := Option.some.inj hq
        obtain ⟨kn, Pk0, N, hsub, rfl, hm, ha⟩ := hp hni
        have hev := inv'.dep hr hsub
        have hw := inv'.wants hr hsub hm
        simp only [wpOps, ho, hw, if_true]
        left
        have hsat : Sat w0 w (A * Pk0 * (N * L * early ea dl')) := inv'.sat.conv (by ac_rfl)
        refine ha.out a w (N * L * early ea dl') _ _ hev hsat fun v w' hs => ?_
        have hsat' : Sat w0 w' (A * (Pk0 * N) * L * early (seta ea i' v) dl') := by
          rw [early_set inv'.nd hmem (inv'.en i' hni)]
          exact hs.conv (by ac_rfl)
        exact ih hsf' hc' known' (Pk0 * N) L dl' (seta ea i' v) _ w' (inv'.next0 sh hi ho hr hnt (.inr hid) (fun _ _ h => h) (fun j u hj => ⟨fun e => (by subst e; rw [hk] at hj; cases hj), fun _ => hj⟩)
          (fun _ => by unfold seta; rw [if_pos rfl]) (fun j hj => by unfold seta; rw [if_neg hj]) hdk ⟨emp, (sep_emp _).symm⟩ hsat') nd.sd
      · have hidf : has (keysD dl') i = false := by
          cases hb : has (keysD dl') i with
          | false => rfl
          | true => exact absurd (has_iff.1 hb) hid
        have late : ∀ (c : Nat) (dl0 : Dl), (∀ j, j ∈ keysD dl0 → j ∈ keysD dl') → c ≠ i → ¬ lis listed c → ¬ ((List.range ops.size).all (fun j => (vof known' j).isSome || has (c :: keysD dl0) j || reach (befs ops.toList []) c j) = true) := by
          intro c dl0 hsubk hci hcl hrest
          have hx := List.all_eq_true.1 hrest i (by simpa using hisz)
          simp only [Bool.or_eq_true, hk, Option.isSome_none, Bool.false_eq_true, false_or] at hx
          rcases hx with hx | hx
          · rcases List.mem_cons.1 (has_iff.1 hx) with e | e
            · exact hci e.symm
            · exact hid (hsubk i e)
          · exact hcl (reach_listed sh.ord inv'.cl i o ho hr c hx)
        cases nd with
        | take j F hnl hrest k =>
          rename_i dl0
          refine absurd hrest (late j dl0 (fun x hx => by simp only [keysD, List.map_cons, List.mem_cons] at *; exact .inr hx) (fun e => ?_) hnl)
          subst e
          exact hid (by simp [keysD])
        | chain c p R hci hn hd hm ht hrest h k hP =>
          by_cases hic : c = i
          · subst hic
            rw [ho] at hci
            obtain rfl := Option.some.inj hci
            have hnt : c ∉ tail := fun hm => by rw [has_iff.2 hm] at ht; cases ht
            have hw := inv'.wants hr (fun _ _ h => h) hm
            simp only [wpOps, ho, hw, if_true]
            left
            have hsat : Sat w0 w (A * early ea dl' * Pk' * L) := inv'.sat.conv (by ac_rfl)
            refine (h (early ea dl')).out a w _ _ (inv'.dep hr fun _ _ h => h) hsat fun v P' L' w' hR hs => ?_
            exact ih hsf' hc' ((c, v) :: known') P' L' dl' ea _ w' (inv'.next0 sh hi ho hr hnt (.inl vof_cons_eq) (fun j u hj => vof_mono hn hj) (fun j u hj => ⟨fun e => by subst e; rw [vof_cons_eq] at hj; exact (Option.some.inj hj).symm, fun e => by rw [vof_cons_ne (fun q => e q.symm)] at hj; exact hj⟩)
              (fun h => absurd h hid) (fun _ _ => rfl) (fun j hj => by rw [vof_cons_ne (fun q => hid (by rw [q]; exact hj))]; exact hdk j hj) (hP v P' L' hR) (hs.conv (by ac_rfl))) (k v P' L' hR)
          · exact absurd hrest (late c dl' (fun _ h => h) hic (inv'.fresh hn hd))
        | tail hall h =>
          have hx := List.all_eq_true.1 hall i (by simpa using hisz)
          simp only [Bool.or_eq_true, hk, Option.isSome_none, Bool.false_eq_true, false_or] at hx
          have hit := has_iff.1 hx
          refine fin (f + 1) listed (i :: l) (.step f i o listed l hi ho hr kk) hsf hc known' Pk' L ea a w inv' (fun j hj => ⟨fun hlj hm => ?_, fun hm => ?_⟩) h
          · rcases inv'.li j hlj with ⟨v, hv⟩ | hk2
            · exact (inv'.kn j v hv).1 hm
            · simp [keysD] at hk2
          · exact reach_listed sh.ord inv'.cl i o ho hr j ((sh.last i hit).2 j hj hm)
/-- A writer without a result. -/
theorem COp.ofS {op : Op} {ty : TypeId} {ps : String} {af : Array Edge} {g : Option (Nat × Bool)} {E' : Env} {B : Asn} {R : Value → Asn → Asn → Prop}
    (h : ∀ K : Act → World → Prop, (∀ P' L', R undef P' L' → RunL P n w0 ops [] K E' (A * P' * L')) → RunL P n w0 ops [{ dst := none, op, type := ty, pos := ps, after := af, guard := none }] K E' B) :
    COp P n w0 A { dst := none, op, type := ty, pos := ps, after := af, guard := g } E' B R := by
  refine ⟨fun a w K Q he hs hk => ?_⟩
  have h1 := (h (fun a' w' => ∃ P' L', R undef P' L' ∧ Ev n a' E' ∧ Sat w0 w' (A * P' * L')) fun P' L' hR => .done fun a' w' he' hs' => ⟨P', L', hR, he', hs'⟩).out a w he hs
  unfold wpList at h1
  rw [if_pos (by simp [Region.wanted])] at h1
  rcases h1 with h1 | ⟨_, _, _, hq⟩
  · refine wp_put (o := { dst := none, op, type := ty, pos := ps, after := af, guard := none }) h1 (fun v w' hn => ?_) (fun a' w' hd' hn => ?_)
    · simp only [wpList, Qk] at hn
      obtain ⟨P', L', hR, he', hs'⟩ := hn
      exact hk undef P' L' w' hR hs'
    · simp only [wpList, Qk] at hn
      obtain ⟨P', L', hR, he', hs'⟩ := hn
      exact absurd he'.defers hd'
  · exact hq.elim
theorem none_left : ∀ {f : Nat} {listed : Array Bool} {l : List Nat}, Ok ops f listed l → listed.size = ops.size → (∀ i, i < ops.size → lis listed i) → l = [] := by
  intro f listed l hok hs h
  cases hok with
  | zero => rfl
  | stop => rfl
  | step f i o listed l hi ho hr k =>
    have h1 := h i (Array.getElem?_eq_some_iff.1 ho).1
    unfold lis at h1
    rw [hi] at h1
    cases h1
theorem lis_set {listed : Array Bool} {i j : Nat} (hi : i < listed.size) : lis (listed.setIfInBounds i true) j ↔ j = i ∨ lis listed j := by
  unfold lis
  by_cases e : i = j
  · subst e
    simp [hi]
  · rw [Array.getElem?_setIfInBounds_ne e]
    constructor
    · exact .inr
    · rintro (rfl | h)
      · exact absurd rfl e
      · exact h
theorem one_left {f : Nat} {listed : Array Bool} {l : List Nat} {t : Nat} (hord : ordered 0 ops.toList = true) (hok : Ok ops f listed l) (hs : listed.size = ops.size) (hc : listed.toList.count false ≤ f) (ht : t < ops.size) (h : ∀ i, i < ops.size → (lis listed i ↔ i ≠ t)) : l = [t] := by
  have hnt : ¬ lis listed t := fun e => (h t ht).1 e rfl
  cases hok with
  | zero => exact absurd (count_all hc t (by omega)) hnt
  | stop f listed hst => exact absurd (all_listed hord hs hst t ht) hnt
  | step f i o listed l hi ho hr k =>
    have hisz := (Array.getElem?_eq_some_iff.1 ho).1
    have hit : i = t := by
      by_cases e : i = t
      · exact e
      · have h1 := (h i hisz).2 e
        unfold lis at h1
        rw [hi] at h1
        cases h1
    subst hit
    rw [none_left k (by simpa using hs) fun j hj => ?_]
    rw [lis_set (by omega)]
    by_cases e : j = i
    · exact .inl e
    · exact .inr ((h j hj).2 e)
theorem two_left {f : Nat} {listed : Array Bool} {l : List Nat} {t u : Nat} (hord : ordered 0 ops.toList = true) (hok : Ok ops f listed l) (hs : listed.size = ops.size) (hc : listed.toList.count false ≤ f) (htu : t ≠ u) (ht : t < ops.size) (hu : u < ops.size) (h : ∀ i, i < ops.size → (lis listed i ↔ i ∉ [t, u])) : l = [t, u] ∨ l = [u, t] := by
  have hnt : ¬ lis listed t := fun e => (h t ht).1 e (by simp)
  cases hok with
  | zero => exact absurd (count_all hc t (by omega)) hnt
  | stop f listed hst => exact absurd (all_listed hord hs hst t ht) hnt
  | step f i o listed l hi ho hr k =>
    have hisz := (Array.getElem?_eq_some_iff.1 ho).1
    have hmem : i ∈ [t, u] := by
      by_cases e : i ∈ [t, u]
      · exact e
      · have h1 := (h i hisz).2 e
        unfold lis at h1
        rw [hi] at h1
        cases h1
    have hc' : (listed.setIfInBounds i true).toList.count false ≤ f := by
      have := count_set listed.toList i (by simpa using hi)
      simp
      omega
    simp only [List.mem_cons, List.not_mem_nil, or_false] at hmem h
    rcases hmem with rfl | rfl
    · left
      rw [one_left hord k (by simpa using hs) hc' hu fun j hj => ?_]
      rw [lis_set (by omega), h j hj]
      constructor
      · rintro (h1 | h1)
        · exact fun h2 => htu (h1.symm.trans h2)
        · exact fun h2 => h1 (.inr h2)
      · intro h1
        by_cases e2 : j = i
        · exact .inl e2
        · exact .inr (fun h2 => h2.elim e2 h1)
    · right
      rw [one_left hord k (by simpa using hs) hc' ht fun j hj => ?_]
      rw [lis_set (by omega), h j hj]
      constructor
      · rintro (h1 | h1)
        · exact fun h2 => htu (h2.symm.trans h1)
        · exact fun h2 => h1 (.inl h2)
      · intro h1
        by_cases e2 : j = i
        · exact .inl e2
        · exact .inr (fun h2 => h2.elim h1 e2)
theorem Run.drawD2 {fid : Fid} {R : Ending → World → Prop} {k : List Item} {id : Nat} {l : List Oper} {A1 L : Asn} (t u : Nat) (htu : Nat.beq t u = false) (hmix : P.follows .mixedOrders = true) (hA : A1 = A * L) (hchk : chk0 l [t, u] (E.map (·.1)) n = true)
    (h : Sd P n w0 l.toArray [t, u] E A (Runs P fid R k) [] emp L []) (h2 : Sd P n w0 l.toArray [u, t] E A (Runs P fid R k) [] emp L []) (hd : (fid.ro.isNone || noDefer l.toArray) = true := by rfl) : Run P fid n R w0 (.code (.region id l.toArray true) :: k) E A1 := by
  subst hA
  have htu' : t ≠ u := fun e => by subst e; simp at htu
  have sh := Shape0.of_chk hchk
  have hmm : ∀ i, i ∈ [t, u] ↔ i ∈ [u, t] := fun i => by simp [or_comm]
  have sh2 : Shape0 l.toArray [u, t] E n := ⟨sh.ord, fun i o d hi hm ho => by
    obtain ⟨q1, q2, q3⟩ := sh.dst i o d hi (fun h => hm ((hmm i).1 h)) ho
    exact ⟨q1, q2, fun j p hj hjm => q3 j p hj (fun h => hjm ((hmm j).1 h))⟩, fun x hx => by
    obtain ⟨q1, q2⟩ := sh.last x ((hmm x).2 hx)
    exact ⟨q1, fun i hi hm => q2 i hi (fun h => hm ((hmm i).1 h))⟩⟩
  have ht := (sh.last t (by simp)).1
  have hu := (sh.last u (by simp)).1
  refine ⟨fun a w he hs => Runs.regionD hd fun tp => ?_⟩
  have hw : wpOps P l.toArray (Qk (Runs P fid R k)) (Region.schedule (P.follows .mixedOrders) l.toArray tp) a { w with drawn := w.drawn + 1 } := by
    rw [hmix]
    unfold Region.schedule
    simp only [Bool.true_or, if_true]
    obtain ⟨ol, hl, hok⟩ := lin_ok l.toArray l.toArray.size tp (Array.replicate l.toArray.size false) [] (by simp)
    unfold Region.linearise
    rw [hl]
    simp only [List.reverse_nil, List.nil_append]
    have hnl : ∀ i, ¬ lis (Array.replicate l.toArray.size false) i := by
      intro i hi
      unfold lis at hi
      have := Array.getElem?_eq_some_iff.1 hi
      simp at this
    by_cases hsf : [t, u] <:+ ol
    · refine draw_soundD0 sh ol (fun f listed l' hok' hsf' hs' hc' hli => ?_) _ _ _ hok (List.suffix_refl _) (by simp) [] emp L [] (fun _ => none) a _ ⟨by simp, he, ?_, ?_, ?_, List.nodup_nil, fun _ _ => rfl, ?_, ?_⟩ h
      · rcases two_left sh.ord hok' hs' hc' htu' ht hu hli with e | e
        · exact e
        · subst e
          obtain ⟨c, hc⟩ := hsf
          obtain ⟨d, hd⟩ := hsf'
          have := List.append_inj_right' (hc.trans hd.symm) rfl
          simp at this
          exact absurd this.1 htu'
      · have := hs.drawnN (w.drawn + 1)
        refine this.conv ?_
        simp only [early]
        rw [sep_emp, sep_emp]
      · intro i v hv; simp [vof] at hv
      · intro i F hi; simp at hi
      · intro i hi; exact absurd hi (hnl i)
      · intro i o hi; exact absurd hi (hnl i)
    · refine draw_soundD0 sh2 ol (fun f listed l' hok' hsf' hs' hc' hli => ?_) _ _ _ hok (List.suffix_refl _) (by simp) [] emp L [] (fun _ => none) a _ ⟨by simp, he, ?_, ?_, ?_, List.nodup_nil, fun _ _ => rfl, ?_, ?_⟩ h2
      · rcases two_left sh.ord hok' hs' hc' htu' ht hu (fun i hi => by rw [hli i hi, hmm i]) with e | e
        · subst e
          exact absurd hsf' hsf
        · exact e
      · have := hs.drawnN (w.drawn + 1)
        refine this.conv ?_
        simp only [early]
        rw [sep_emp, sep_emp]
      · intro i v hv; simp [vof] at hv
      · intro i F hi; simp at hi
      · intro i hi; exact absurd hi (hnl i)
      · intro i o hi; exact absurd hi (hnl i)
  exact hw
end
end Go.Proofs.Ytlheianbmpgefaa
