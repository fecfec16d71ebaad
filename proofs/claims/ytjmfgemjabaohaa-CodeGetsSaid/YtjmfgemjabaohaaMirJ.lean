/- The mirror machine: what to prove of a command (backwards). No program in sight. -/
import Derived.Test.YtjmfgemjabaohaaMirA
namespace Go.Mir
set_option linter.unusedVariables false
set_option linter.unusedSimpArgs false

/-- From some number of rounds on. -/
def Runs (Fs : Nat → Option Fun) (f : Nat) (as : List AV) (H : Heap) (r : AV) (H' : Heap) : Prop := ∃ k0, ∀ k, k0 ≤ k → run Fs k f as H = some (r, H')

def noCall : CallFn := fun _ _ _ => none

def WpCall (Fs : Nat → Option Fun) (own : Bool) (H : Heap) (f : Nat) (as : List AV) (K : AV → Heap → Prop) : Prop :=
  ∃ v H', (∃ k0, ∀ k, k0 ≤ k → doCall (run Fs k) own H f as = some (v, H')) ∧ K v H'

def is1 (K : AV → Heap → Prop) : Option (AV × Heap) → Prop
  | some (v, H) => K v H
  | none => False

def Wp1 (Fs : Nat → Option Fun) (o : Opn) (σ : Slots) (H : Heap) (K : AV → Heap → Prop) : Prop :=
  match o with
  | .call own f args => match evL σ args with
    | some as => WpCall Fs own H f as K
    | none => False
  | .dyn own x args => match ev σ x, evL σ args with
    | some (.fn f cap), some as => WpCall Fs own H f (as ++ cap) K
    | _, _ => False
  | o => is1 K (exec1 noCall σ H o)

def putD (σ : Slots) : Option Nat → AV → Slots
  | some d, v => σ.put d v
  | none, _ => σ

def Wpo (Fs : Nat → Option Fun) : List RO → Slots → Heap → (Slots → Heap → Prop) → Prop
  | [], σ, H, Q => Q σ H
  | ⟨dst, op, none, _⟩ :: r, σ, H, Q => Wp1 Fs op σ H fun v H' => Wpo Fs r (putD σ dst v) H' Q
  | ⟨dst, op, some (g, want), _⟩ :: r, σ, H, Q => match σ.get g with
    | .n (.bool b) => if b = want then Wp1 Fs op σ H fun v H' => Wpo Fs r (putD σ dst v) H' Q else Wpo Fs r (putD σ dst (.n .any)) H Q
    | _ => False

abbrev Post := Ex → Slots → Heap → Prop
def thenQ (W : Slots → Heap → Prop) (Q : Post) : Post
  | .norm, σ, H => W σ H
  | e, σ, H => Q e σ H
def blockQ (id : Nat) (Q : Post) : Post
  | .exit i, σ, H => if i = id then Q .norm σ H else Q (.exit i) σ H
  | e, σ, H => Q e σ H
def isB (W : Bool → Prop) : Option AV → Prop
  | some (.n (.bool t)) => W t
  | _ => False
def isS (W : Slots → Heap → Prop) : Option (Slots × Heap) → Prop
  | some (σ, H) => W σ H
  | none => False

def WpLoop (W : Slots → Heap → Post → Prop) (σ : Slots) (H : Heap) (Q : Post) : Prop :=
  ∃ I : Nat → Slots → Heap → Prop, (∃ n, I n σ H) ∧ ∀ n σ H, I n σ H → W σ H (thenQ (fun σ H => ∃ n', n' < n ∧ I n' σ H) Q)

def Wp (Fs : Nat → Option Fun) : Cmd → Slots → Heap → Post → Prop
  | .skip, σ, H, Q => Q .norm σ H
  | .region ops, σ, H, Q => Wpo Fs ops σ H fun σ H => Q .norm σ H
  | .drawn _ _, _, _, _ => False
  | .seq a b, σ, H, Q => Wp Fs a σ H (thenQ (fun σ H => Wp Fs b σ H Q) Q)
  | .cond c a b, σ, H, Q => isB (fun t => if t then Wp Fs a σ H Q else Wp Fs b σ H Q) (ev σ c)
  | .block id c, σ, H, Q => Wp Fs c σ H (blockQ id Q)
  | .loop _ c, σ, H, Q => WpLoop (Wp Fs c) σ H Q
  | .exit id, σ, H, Q => Q (.exit id) σ H
  | .ret, σ, H, Q => Q .ret σ H
  | .hint fn keep drop rows data, σ, H, Q => isS (fun σ H => Q .norm σ H) (hinted fn keep drop rows data σ H)

section
variable {Fs : Nat → Option Fun}

theorem wp1_sound {o : Opn} {σ : Slots} {H : Heap} {K : AV → Heap → Prop} (h : Wp1 Fs o σ H K) : ∃ v H', (∃ k0, ∀ k, k0 ≤ k → exec1 (run Fs k) σ H o = some (v, H')) ∧ K v H' := by
  cases o
  case call own f args =>
    simp only [Wp1] at h
    split at h
    · rename_i as ha
      obtain ⟨v, H', ⟨k0, hk⟩, hK⟩ := h
      exact ⟨v, H', ⟨k0, fun k hk' => by simp only [exec1, ha]; exact hk k hk'⟩, hK⟩
    · exact h.elim
  case dyn own x args =>
    simp only [Wp1] at h
    split at h
    · rename_i f cap as hx ha
      obtain ⟨v, H', ⟨k0, hk⟩, hK⟩ := h
      exact ⟨v, H', ⟨k0, fun k hk' => by simp only [exec1, hx, ha]; exact hk k hk'⟩, hK⟩
    · exact h.elim
  all_goals
    simp only [Wp1, is1] at h
    split at h
    · rename_i v H' he
      exact ⟨v, H', ⟨0, fun k _ => he⟩, h⟩
    · exact h.elim

theorem wpo_sound : ∀ {l : List RO} {σ : Slots} {H : Heap} {Q : Slots → Heap → Prop}, Wpo Fs l σ H Q → ∃ σ' H', (∃ k0, ∀ k, k0 ≤ k → execOps (run Fs k) l σ H = some (σ', H')) ∧ Q σ' H'
  | [], σ, H, Q, h => ⟨σ, H, ⟨0, fun k _ => rfl⟩, h⟩
  | ⟨dst, op, none, _⟩ :: r, σ, H, Q, h => by
    simp only [Wpo] at h
    obtain ⟨v, H1, ⟨k0, hk⟩, h1⟩ := wp1_sound h
    obtain ⟨σ2, H2, ⟨k1, hk1⟩, h2⟩ := wpo_sound h1
    refine ⟨σ2, H2, ⟨max k0 k1, fun k hk' => ?_⟩, h2⟩
    simp only [execOps, hk k (by omega)]
    exact (by cases dst <;> exact hk1 k (by omega))
  | ⟨dst, op, some (g, want), _⟩ :: r, σ, H, Q, h => by
    simp only [Wpo] at h
    split at h <;> try (exact h.elim)
    rename_i b hb
    split at h
    · rename_i hw
      obtain ⟨v, H1, ⟨k0, hk⟩, h1⟩ := wp1_sound h
      obtain ⟨σ2, H2, ⟨k1, hk1⟩, h2⟩ := wpo_sound h1
      refine ⟨σ2, H2, ⟨max k0 k1, fun k hk' => ?_⟩, h2⟩
      simp only [execOps, hb, if_pos hw, hk k (by omega)]
      exact (by cases dst <;> exact hk1 k (by omega))
    · rename_i hw
      obtain ⟨σ2, H2, ⟨k1, hk1⟩, h2⟩ := wpo_sound h
      refine ⟨σ2, H2, ⟨k1, fun k hk' => ?_⟩, h2⟩
      simp only [execOps, hb, if_neg hw]
      exact (by cases dst <;> exact hk1 k (by omega))

theorem wp_sound : ∀ {c : Cmd} {σ : Slots} {H : Heap} {Q : Post}, Wp Fs c σ H Q → ∃ ex σ' H', (∃ k0, ∀ k j, k0 ≤ k → k0 ≤ j → exec (run Fs k) j c σ H = some (ex, σ', H')) ∧ Q ex σ' H' := by
  intro c
  induction c with
  | skip => intro σ H Q h; exact ⟨_, _, _, ⟨0, fun _ _ _ _ => rfl⟩, h⟩
  | region ops =>
    intro σ H Q h
    obtain ⟨σ', H', ⟨k0, hk⟩, hq⟩ := wpo_sound h
    exact ⟨.norm, σ', H', ⟨k0, fun k j h1 h2 => by simp only [exec, hk k h1]⟩, hq⟩
  | drawn => intro σ H Q h; exact h.elim
  | seq a b iha ihb =>
    intro σ H Q h
    obtain ⟨ex, σ1, H1, ⟨k0, hk⟩, h1⟩ := iha h
    cases ex with
    | norm =>
      obtain ⟨ex, σ2, H2, ⟨k1, hk1⟩, h2⟩ := ihb h1
      exact ⟨ex, σ2, H2, ⟨max k0 k1, fun k j h1 h2 => by simp only [exec, hk k j (by omega) (by omega)]; exact hk1 k j (by omega) (by omega)⟩, h2⟩
    | exit i => exact ⟨_, σ1, H1, ⟨k0, fun k j h1 h2 => by simp only [exec, hk k j h1 h2]⟩, h1⟩
    | ret => exact ⟨_, σ1, H1, ⟨k0, fun k j h1 h2 => by simp only [exec, hk k j h1 h2]⟩, h1⟩
  | cond c a b iha ihb =>
    intro σ H Q h
    simp only [Wp, isB] at h
    split at h <;> try (exact h.elim)
    rename_i t ht
    cases t with
    | true =>
      obtain ⟨ex, σ1, H1, ⟨k0, hk⟩, h1⟩ := iha h
      exact ⟨ex, σ1, H1, ⟨k0, fun k j h1 h2 => by simp only [exec, ht]; exact hk k j h1 h2⟩, h1⟩
    | false =>
      obtain ⟨ex, σ1, H1, ⟨k0, hk⟩, h1⟩ := ihb h
      exact ⟨ex, σ1, H1, ⟨k0, fun k j h1 h2 => by simp only [exec, ht]; exact hk k j h1 h2⟩, h1⟩
  | block id c ih =>
    intro σ H Q h
    obtain ⟨ex, σ1, H1, ⟨k0, hk⟩, h1⟩ := ih h
    cases ex with
    | norm => exact ⟨_, σ1, H1, ⟨k0, fun k j h1 h2 => by simp only [exec, hk k j h1 h2]⟩, h1⟩
    | ret => exact ⟨_, σ1, H1, ⟨k0, fun k j h1 h2 => by simp only [exec, hk k j h1 h2]⟩, h1⟩
    | exit i =>
      simp only [blockQ] at h1
      split at h1
      · rename_i hi
        exact ⟨_, σ1, H1, ⟨k0, fun k j h1 h2 => by simp only [exec, hk k j h1 h2, if_pos hi]⟩, h1⟩
      · rename_i hi
        exact ⟨_, σ1, H1, ⟨k0, fun k j h1 h2 => by simp only [exec, hk k j h1 h2, if_neg hi]⟩, h1⟩
  | loop is c ih =>
    intro σ H Q h
    obtain ⟨I, ⟨n, h0⟩, hI⟩ := h
    have : ∀ n σ H, I n σ H → ∃ ex σ' H', (∃ k0, ∀ k j i, k0 ≤ k → k0 ≤ j → k0 ≤ i → loopN (exec (run Fs k) j c) i σ H = some (ex, σ', H')) ∧ Q ex σ' H' := by
      intro n
      induction n using Nat.strongRecOn with
      | ind n ihn =>
        intro σ H h
        obtain ⟨ex, σ1, H1, ⟨k0, hk⟩, h1⟩ := ih (hI n σ H h)
        cases ex with
        | norm =>
          obtain ⟨n', hn, h'⟩ := h1
          obtain ⟨ex, σ2, H2, ⟨k1, hk1⟩, h2⟩ := ihn n' hn _ _ h'
          refine ⟨ex, σ2, H2, ⟨max k0 k1 + 1, fun k j i h1 h2 h3 => ?_⟩, h2⟩
          obtain ⟨i, rfl⟩ : ∃ i', i = i' + 1 := ⟨i - 1, by omega⟩
          simp only [loopN, hk k j (by omega) (by omega)]
          exact hk1 k j i (by omega) (by omega) (by omega)
        | exit e =>
          refine ⟨_, σ1, H1, ⟨k0 + 1, fun k j i h1 h2 h3 => ?_⟩, h1⟩
          obtain ⟨i, rfl⟩ : ∃ i', i = i' + 1 := ⟨i - 1, by omega⟩
          simp only [loopN, hk k j (by omega) (by omega)]
        | ret =>
          refine ⟨_, σ1, H1, ⟨k0 + 1, fun k j i h1 h2 h3 => ?_⟩, h1⟩
          obtain ⟨i, rfl⟩ : ∃ i', i = i' + 1 := ⟨i - 1, by omega⟩
          simp only [loopN, hk k j (by omega) (by omega)]
    obtain ⟨ex, σ', H', ⟨k0, hk⟩, hq⟩ := this n σ H h0
    exact ⟨ex, σ', H', ⟨k0, fun k j h1 h2 => by simp only [exec]; exact hk k j j h1 h2 h2⟩, hq⟩
  | exit id => intro σ H Q h; exact ⟨_, _, _, ⟨0, fun _ _ _ _ => rfl⟩, h⟩
  | ret => intro σ H Q h; exact ⟨_, _, _, ⟨0, fun _ _ _ _ => rfl⟩, h⟩
  | hint fn keep drop rows data =>
    intro σ H Q h
    simp only [Wp, isS] at h
    split at h <;> try (exact h.elim)
    rename_i σ' H' hh
    exact ⟨.norm, σ', H', ⟨0, fun _ _ _ _ => by simp only [exec, hh]⟩, h⟩

/-! Steps for the simplifier. -/
theorem is1_some {K : AV → Heap → Prop} {v : AV} {H : Heap} : is1 K (some (v, H)) = K v H := rfl
theorem is1_none {K : AV → Heap → Prop} : is1 K none = False := rfl
theorem isB_some {W : Bool → Prop} {t : Bool} : isB W (some (.n (.bool t))) = W t := rfl
theorem isS_some {W : Slots → Heap → Prop} {σ : Slots} {H : Heap} : isS W (some (σ, H)) = W σ H := rfl
theorem isS_none {W : Slots → Heap → Prop} : isS W none = False := rfl
theorem thenQ_norm {W : Slots → Heap → Prop} {Q : Post} {σ : Slots} {H : Heap} : thenQ W Q .norm σ H = W σ H := rfl
theorem thenQ_exit {W : Slots → Heap → Prop} {Q : Post} {i : Nat} {σ : Slots} {H : Heap} : thenQ W Q (.exit i) σ H = Q (.exit i) σ H := rfl
theorem thenQ_ret {W : Slots → Heap → Prop} {Q : Post} {σ : Slots} {H : Heap} : thenQ W Q .ret σ H = Q .ret σ H := rfl
theorem blockQ_norm {i : Nat} {Q : Post} {σ : Slots} {H : Heap} : blockQ i Q .norm σ H = Q .norm σ H := rfl
theorem blockQ_ret {i : Nat} {Q : Post} {σ : Slots} {H : Heap} : blockQ i Q .ret σ H = Q .ret σ H := rfl
theorem blockQ_exit {i j : Nat} {Q : Post} {σ : Slots} {H : Heap} : blockQ i Q (.exit j) σ H = if j = i then Q .norm σ H else Q (.exit j) σ H := rfl
theorem isB_decide {W : Bool → Prop} {p : Prop} [Decidable p] : isB W (some (.n (.bool (decide p)))) = if p then W true else W false := by
  by_cases h : p <;> simp [h, isB]

/-! How far the simplifier looks. -/
@[congr] theorem wp_congr {c : Cmd} {σ σ' : Slots} {H H' : Heap} {Q : Post} (h : σ = σ') (h2 : H = H') : Wp Fs c σ H Q = Wp Fs c σ' H' Q := by rw [h, h2]
@[congr] theorem wpo_congr {l : List RO} {σ σ' : Slots} {H H' : Heap} {Q : Slots → Heap → Prop} (h : σ = σ') (h2 : H = H') : Wpo Fs l σ H Q = Wpo Fs l σ' H' Q := by rw [h, h2]
@[congr] theorem wp1_congr {o : Opn} {σ σ' : Slots} {H H' : Heap} {K : AV → Heap → Prop} (h : σ = σ') (h2 : H = H') : Wp1 Fs o σ H K = Wp1 Fs o σ' H' K := by rw [h, h2]
@[congr] theorem is1_congr {K : AV → Heap → Prop} {e e' : Option (AV × Heap)} (h : e = e') : is1 K e = is1 K e' := by rw [h]
@[congr] theorem isB_congr {K : Bool → Prop} {e e' : Option AV} (h : e = e') : isB K e = isB K e' := by rw [h]
@[congr] theorem isS_congr {K : Slots → Heap → Prop} {e e' : Option (Slots × Heap)} (h : e = e') : isS K e = isS K e' := by rw [h]
@[congr] theorem thenQ_congr {K : Slots → Heap → Prop} {Q : Post} {ex ex' : Ex} {σ σ' : Slots} {H H' : Heap} (h0 : ex = ex') (h : σ = σ') (h2 : H = H') : thenQ K Q ex σ H = thenQ K Q ex' σ' H' := by rw [h0, h, h2]
@[congr] theorem blockQ_congr {i : Nat} {Q : Post} {ex ex' : Ex} {σ σ' : Slots} {H H' : Heap} (h0 : ex = ex') (h : σ = σ') (h2 : H = H') : blockQ i Q ex σ H = blockQ i Q ex' σ' H' := by rw [h0, h, h2]
@[congr] theorem wpLoop_congr {W : Slots → Heap → Post → Prop} {Q : Post} {σ σ' : Slots} {H H' : Heap} (h : σ = σ') (h2 : H = H') : WpLoop W σ H Q = WpLoop W σ' H' Q := by rw [h, h2]
@[congr] theorem wpCall_congr {own : Bool} {f : Nat} {as as' : List AV} {K : AV → Heap → Prop} {H H' : Heap} (h : as = as') (h2 : H = H') : WpCall Fs own H f as K = WpCall Fs own H' f as' K := by rw [h, h2]

theorem wpLoop_of {W : Slots → Heap → Post → Prop} {σ : Slots} {H : Heap} {Q : Post} (I : Nat → Slots → Heap → Prop) (n : Nat) (h : I n σ H) (hs : ∀ n σ H, I n σ H → W σ H (thenQ (fun σ H => ∃ n', n' < n ∧ I n' σ H) Q)) : WpLoop W σ H Q := ⟨I, ⟨n, h⟩, hs⟩

/-- One more round, with less to go. 'F': the slots, 'j' where it is no matter what lies there. -/
def Again {X : Type} (F : X → (Nat → AV) → Slots) (h : X → Heap) (I : X → Prop) (μ : X → Nat) (x : X) (σ : Slots) (H : Heap) : Prop :=
  ∃ x' j, σ = F x' j ∧ H = h x' ∧ I x' ∧ μ x' < μ x
@[congr] theorem again_congr {X : Type} {F : X → (Nat → AV) → Slots} {h : X → Heap} {I : X → Prop} {μ : X → Nat} {x : X} {σ σ' : Slots} {H H' : Heap} (h1 : σ = σ') (h2 : H = H') : Again F h I μ x σ H = Again F h I μ x σ' H' := by rw [h1, h2]
theorem again {X : Type} {F : X → (Nat → AV) → Slots} {h : X → Heap} {I : X → Prop} {μ : X → Nat} {x : X} {σ : Slots} {H : Heap} (x' : X) (hi : I x') (hm : μ x' < μ x) (hh : H = h x') (hs : σ = F x' (Slots.get σ)) : Again F h I μ x σ H := ⟨x', _, hs, hh, hi, hm⟩
theorem wpLoop_x {X : Type} {W : Slots → Heap → Post → Prop} {σ : Slots} {H : Heap} {Q : Post} (F : X → (Nat → AV) → Slots) (h : X → Heap) (I : X → Prop) (μ : X → Nat) (x : X) (hi : I x) (hh : H = h x) (hs : σ = F x (Slots.get σ))
    (step : ∀ x j, I x → W (F x j) (h x) (thenQ (Again F h I μ x) Q)) : WpLoop W σ H Q :=
  ⟨fun n σ H => ∃ x j, σ = F x j ∧ H = h x ∧ I x ∧ μ x = n, ⟨_, x, _, hs, hh, hi, rfl⟩, by
    rintro n σ H ⟨x, j, rfl, rfl, hi, rfl⟩
    have : (fun σ H => ∃ n', n' < μ x ∧ ∃ x j, σ = F x j ∧ H = h x ∧ I x ∧ μ x = n') = Again F h I μ x := by
      funext σ H
      refine propext ⟨?_, ?_⟩
      · rintro ⟨n', hn, x', j', h1, h2, h3, rfl⟩; exact ⟨x', j', h1, h2, h3, hn⟩
      · rintro ⟨x', j', h1, h2, h3, h4⟩; exact ⟨_, h4, x', j', h1, h2, h3, rfl⟩
    rw [this]
    exact step x j hi⟩

/-- Behind a function's body. -/
def retQ (c : FnC) (Hin : Heap) (R : AV → Heap → Prop) : Post
  | .norm, σ, H => match resV σ H c.results with
    | some vs => is1 R (giveBack c.own Hin H (one vs))
    | none => False
  | .ret, σ, H => match resV σ H c.results with
    | some vs => is1 R (giveBack c.own Hin H (one vs))
    | none => False
  | _, _, _ => False

theorem runs_code {f : Nat} {c : FnC} {as : List AV} {H : Heap} {R : AV → Heap → Prop} (hf : Fs f = some (.code c)) (hd : H.dom.any (fun i => i / 100000 == c.fn) = false)
    (h : Wp Fs c.body (as ++ List.replicate (c.ntmps - as.length) (.n .any)) H (retQ c H R)) : ∃ r H', Runs Fs f as H r H' ∧ R r H' := by
  obtain ⟨ex, σ', H1, ⟨k0, hk⟩, hq⟩ := wp_sound h
  cases ex with
  | exit i => exact hq.elim
  | norm =>
    simp only [retQ] at hq
    split at hq <;> try (exact hq.elim)
    rename_i vs hvs
    simp only [is1] at hq
    split at hq <;> try (exact hq.elim)
    rename_i r H' hg
    refine ⟨r, H', ⟨k0 + 1, fun k hk' => ?_⟩, hq⟩
    obtain ⟨k, rfl⟩ : ∃ i', k = i' + 1 := ⟨k - 1, by omega⟩
    simp only [run, hf, runFn, hd, hk k k (by omega) (by omega), hvs, hg]
    rfl
  | ret =>
    simp only [retQ] at hq
    split at hq <;> try (exact hq.elim)
    rename_i vs hvs
    simp only [is1] at hq
    split at hq <;> try (exact hq.elim)
    rename_i r H' hg
    refine ⟨r, H', ⟨k0 + 1, fun k hk' => ?_⟩, hq⟩
    obtain ⟨k, rfl⟩ : ∃ i', k = i' + 1 := ⟨k - 1, by omega⟩
    simp only [run, hf, runFn, hd, hk k k (by omega) (by omega), hvs, hg]
    rfl

/-- What is told, when nothing of one's own goes along. -/
def tellD (R : AV → Prop) : Option AV → Prop
  | some r => ((refs r).isEmpty && (rowsIn r).isEmpty) = true ∧ R r
  | none => False
theorem tellD_some {R : AV → Prop} {r : AV} : tellD R (some r) = (((refs r).isEmpty && (rowsIn r).isEmpty) = true ∧ R r) := rfl
def tellV (R : AV → Prop) (H : Heap) : Option (List AV) → Prop
  | some vs => tellD R (snap H (one vs))
  | none => False
theorem tellV_some {R : AV → Prop} {H : Heap} {vs : List AV} : tellV R H (some vs) = tellD R (snap H (one vs)) := rfl
def retD (c : FnC) (R : AV → Prop) : Post
  | .norm, σ, H => tellV R H (resV σ H c.results)
  | .ret, σ, H => tellV R H (resV σ H c.results)
  | _, _, _ => False
theorem retD_ret {c : FnC} {R : AV → Prop} {σ : Slots} {H : Heap} : retD c R .ret σ H = tellV R H (resV σ H c.results) := rfl
theorem retD_norm {c : FnC} {R : AV → Prop} {σ : Slots} {H : Heap} : retD c R .norm σ H = tellV R H (resV σ H c.results) := rfl
@[congr] theorem tellD_congr {R : AV → Prop} {e e' : Option AV} (h : e = e') : tellD R e = tellD R e' := by rw [h]
@[congr] theorem tellV_congr {R : AV → Prop} {H H' : Heap} {e e' : Option (List AV)} (h : e = e') (h2 : H = H') : tellV R H e = tellV R H' e' := by rw [h, h2]

theorem keep_nil : ∀ H : Heap, H.keep [] = [] := fun H => by
  induction H with
  | nil => rfl
  | cons x r ih => obtain ⟨i, o⟩ := x; simpa [Heap.keep] using ih

theorem runs_data {f : Nat} {c : FnC} {as : List AV} {R : AV → Prop} (hf : Fs f = some (.code c)) (ho : c.own = false)
    (h : Wp Fs c.body (as ++ List.replicate (c.ntmps - as.length) (.n .any)) [] (retD c R)) : ∃ r, Runs Fs f as [] r [] ∧ R r := by
  obtain ⟨ex, σ', H1, ⟨k0, hk⟩, hq⟩ := wp_sound h
  have key : tellV R H1 (resV σ' H1 c.results) → ∃ vs r, resV σ' H1 c.results = some vs ∧ giveBack c.own [] H1 (one vs) = some (r, []) ∧ R r := fun hq => by
    unfold tellV at hq
    split at hq <;> try (exact hq.elim)
    rename_i vs hvs
    unfold tellD at hq
    split at hq <;> try (exact hq.elim)
    rename_i r hr
    obtain ⟨h1, h2⟩ := hq
    simp only [Bool.and_eq_true, List.isEmpty_iff] at h1
    refine ⟨vs, r, hvs, ?_, h2⟩
    rw [ho]
    have e : H1.reach 1000 (Heap.dom [] ++ refs r) [] = [] := by rw [h1.1]; rfl
    have e2 : H1.closed [] [r] = true := by simp [Heap.closed, refsL, rowsInL, h1.1, h1.2]
    simp only [giveBack, hr, e, e2, keep_nil]
    rfl
  cases ex with
  | exit i => exact hq.elim
  | norm =>
    obtain ⟨vs, r, h1, h2, h3⟩ := key hq
    refine ⟨r, ⟨k0 + 1, fun k hk' => ?_⟩, h3⟩
    obtain ⟨k, rfl⟩ : ∃ i', k = i' + 1 := ⟨k - 1, by omega⟩
    simp only [run, hf, runFn, hk k k (by omega) (by omega), h1, h2]
    rfl
  | ret =>
    obtain ⟨vs, r, h1, h2, h3⟩ := key hq
    refine ⟨r, ⟨k0 + 1, fun k hk' => ?_⟩, h3⟩
    obtain ⟨k, rfl⟩ : ∃ i', k = i' + 1 := ⟨k - 1, by omega⟩
    simp only [run, hf, runFn, hk k k (by omega) (by omega), h1, h2]
    rfl

theorem runs_eq {f : Nat} {c : FnC} {as : List AV} {r : AV} (hf : Fs f = some (.code c)) (ho : c.own = false)
    (h : Wp Fs c.body (as ++ List.replicate (c.ntmps - as.length) (.n .any)) [] (retD c (· = r))) : Runs Fs f as [] r [] := by
  obtain ⟨r', h1, rfl⟩ := runs_data hf ho h
  exact h1

/-- A call of plain data, which answers with plain data. -/
theorem wpCall_data {own : Bool} {H : Heap} {f : Nat} {as as' : List AV} {r : AV} {K : AV → Heap → Prop} (hs : snapL H as = some as') (hr : refsL as' = []) (hw : rowsInL as' = []) (hl : rowsInL as = [])
    (h : Runs Fs f (ageL as') [] r []) (hr1 : refs r = []) (hw1 : rowsIn r = []) (hsn : snap [] r = some r) (hK : K r H) : WpCall Fs own H f as K := by
  obtain ⟨k0, hk⟩ := h
  refine ⟨r, H, ⟨k0, fun k hk' => ?_⟩, hK⟩
  have hreach : H.reach 1000 [] [] = [] := rfl
  have hkeep : ∀ H : Heap, H.keep [] = [] := fun H => by
    induction H with
    | nil => rfl
    | cons x r ih => obtain ⟨i, o⟩ := x; simpa [Heap.keep] using ih
  have hcl : ∀ H : Heap, H.closed [] as' = true := fun H => by simp [Heap.closed, hr, hw]
  have hcl2 : ∀ H : Heap, H.closed [] [r] = true := fun H => by simp [Heap.closed, refsL, rowsInL, hr1, hw1]
  unfold doCall
  simp only [hs, hr, hreach, hl, hcl, hkeep, Heap.age, hk k hk', hsn, hcl2, hw1]
  cases own <;> simp [Heap.freeze, Heap.merge]
end
end Go.Mir
