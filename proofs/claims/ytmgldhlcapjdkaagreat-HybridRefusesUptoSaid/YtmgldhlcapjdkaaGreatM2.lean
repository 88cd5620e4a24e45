/- Part of a proof of a law of this seat: the machine of plain values, its simulation, and the contracts of the functions that the law reaches. Conditions: none beyond the given row. -/
import Derived.Test.YtmgldhlcapjdkaaGreatM1
import Derived.Laws.Strings
open Int renaming reduceLT → q1, reduceLE → q2, reduceBEq → q3, reduceBNe → q4, reduceEq → q5
open Nat renaming reduceAdd → q6, reduceLeDiff → q7, reduceLT → q8, reduceEqDiff → q9
set_option linter.unusedSimpArgs false
set_option linter.unusedVariables false
set_option linter.unnecessarySimpa false
set_option maxHeartbeats 4000000
section
namespace Go.Rmp
def stB (R : Regs) (H : Heap) : List Rd → Prop
  | [] => True
  | r :: l => (wants R r.g = true → evop R H r.op = some (R r.d, H)) ∧ stB R H l
theorem stB_ok {R : Regs} {H : Heap} : ∀ (l : List Rd), stB R H l → stable R H l
  | [], _ => fun r h => by cases h
  | x :: l, h => fun r hr => by
    rcases List.mem_cons.1 hr with rfl | hr
    · exact h.1
    · exact stB_ok l h.2 r hr
theorem updo_s (R : Regs) (d : Nat) (v : T) : updo R (some d) v = upd R d v := rfl
theorem updo_n (R : Regs) (v : T) : updo R none v = R := rfl
theorem upd_ap (R : Regs) (d : Nat) (v : T) (t : Nat) : upd R d v t = if t = d then v else R t := rfl
theorem regs0_0 (a : T) (l : List T) : regs0 (a :: l) 0 = a := rfl
theorem ev_r (R : Regs) (t : Nat) : X.ev R (.r t) = R t := rfl
theorem ev_c (R : Regs) (v : T) : X.ev R (.c v) = v := rfl
def nilsB (R : Regs) (g : Gd) (s : List Rd) : Bo → Prop
  | .eqr _ c x y => g = none ∧ s = [] ∧ c = .slice ∧ x.ev R = .sl .arg [] ∧ y.ev R = .sl .nil []
  | _ => False
structure YldB (E : Env) (R : Regs) (H : Heap) (x : X) (az : List X) (P : Heap → Bool → Prop) (b n : Nat) (R0 : Regs) (ps : List Nat) (asg body : C) (M1 M : Out → Heap → Prop) : Prop where
  hf : x.ev R = .yld b
  hb : H[b]? = some (.loop .ready none n R0 ps asg body)
  hn : az.length = ps.length
  h1 : W E (.code asg (setps R0 ps (az.map (X.ev R)))) H M1
  h1' : ∀ o H', M1 o H' → (∃ R1, o = .ex .normal R1) ∧ H'[b]? = some (.loop .ready none n R0 ps asg body)
  h2 : ∀ R1 H1, M1 (.ex .normal R1) H1 → W E (.code body R1) (H1.set b (.loop .busy none n R0 ps asg body)) M
  h2' : ∀ o H', M o H' → H'[b]? = some (.loop .busy none n R0 ps asg body)
  h3 : ∀ R' H', M (.ex .normal R') H' → P (H'.set b (.loop .ready none n R0 ps asg body)) true
  h4 : ∀ e R' H', M (.ex e R') H' → e ≠ .normal → P (H'.set b (.loop .done (some e) n R0 ps asg body)) false
def wpB (E : Env) : List O → Regs → Heap → (Regs → Heap → Prop) → Prop
  | [], R, H, K => K R H
  | ⟨d, .b b, g, s⟩ :: l, R, H, K => match wants R g with
    | false => wpB E l (updo R d undefT) H K
    | true => match evop R H b with
      | some (v, H') => stB R H' s ∧ wpB E l (updo R d v) H' K
      | none => (nilsB R g s b ∧ ∀ t : Bool, wpB E l (updo R d (.bool t)) H K) ∨
        ∃ x bb bi es ix cur, b = .nxt x ∧ x.ev R = .ptr bi 0 ∧ H[bb]? = some (.rmap es ix bi cur) ∧ ∀ t H', NxtTo H bb bi es ix t H' → stB R H' s ∧ wpB E l (updo R d t) H' K
  | ⟨d, .call f az, g, s⟩ :: l, R, H, K => match wants R g with
    | false => wpB E l (updo R d undefT) H K
    | true => ∃ M : Out → Heap → Prop, W E (.call f (az.map (X.ev R))) H M ∧ ∀ v H', M (.val v) H' → stB R H' s ∧ wpB E l (updo R d v) H' K
  | ⟨d, .callv x az, g, s⟩ :: l, R, H, K => match wants R g with
    | false => wpB E l (updo R d undefT) H K
    | true => (∃ (f : Nat) (cs : List T) (M : Out → Heap → Prop), x.ev R = .fn f cs ∧ W E (.call f (az.map (X.ev R) ++ cs)) H M ∧ ∀ v H', M (.val v) H' → stB R H' s ∧ wpB E l (updo R d v) H' K) ∨
      ∃ b n R0 ps asg body M1 M, YldB E R H x az (fun H' t => stB R H' s ∧ wpB E l (updo R d (.bool t)) H' K) b n R0 ps asg body M1 M
theorem wpB_ok {E : Env} {Q : Out → Heap → Prop} : ∀ (l : List O) (R : Regs) (H : Heap), wpB E l R H (fun R' H' => Q (.ex .normal R') H') → W E (.ops l R) H Q
  | [], R, H, h => .nil h
  | ⟨d, .b b, g, s⟩ :: l, R, H, h => by
    simp only [wpB] at h
    split at h
    · rename_i hw; exact .no hw (wpB_ok l _ _ h)
    · rename_i hw
      split at h
      · rename_i v H' he; exact .op hw he (stB_ok _ h.1) (wpB_ok l _ _ h.2)
      · rcases h with h | ⟨x, bb, bi, es, ix, cur, rfl, hx, hb, h⟩
        · cases b with
          | eqr neg c x y =>
            obtain ⟨⟨hg, hs, hc, hx, hy⟩, h⟩ := h
            subst hg
            exact .nils hs (fun t => wpB_ok l _ _ (h t)) hx hy hc
          | _ => exact h.1.elim
        · exact .nxt hw hx hb (fun t H' hm => stB_ok _ (h t H' hm).1) fun t H' hm => wpB_ok l _ _ (h t H' hm).2
  | ⟨d, .call f az, g, s⟩ :: l, R, H, h => by
    simp only [wpB] at h
    split at h
    · rename_i hw; exact .no hw (wpB_ok l _ _ h)
    · rename_i hw
      obtain ⟨M, h1, h2⟩ := h
      exact .call M hw h1 (fun v H' hm => stB_ok _ (h2 v H' hm).1) (fun v H' hm => wpB_ok l _ _ (h2 v H' hm).2)
  | ⟨d, .callv x az, g, s⟩ :: l, R, H, h => by
    simp only [wpB] at h
    split at h
    · rename_i hw; exact .no hw (wpB_ok l _ _ h)
    · rename_i hw
      rcases h with ⟨f, cs, M, hf, h1, h2⟩ | ⟨b, n, R0, ps, asg, body, M1, M, h⟩
      · exact .callv M hw hf h1 (fun v H' hm => stB_ok _ (h2 v H' hm).1) (fun v H' hm => wpB_ok l _ _ (h2 v H' hm).2)
      · exact .yld M1 M hw h.hf h.hb h.hn h.h1 h.h1' h.h2 h.h2' (fun R' H' hm => stB_ok _ (h.h3 R' H' hm).1) (fun R' H' hm => wpB_ok l _ _ (h.h3 R' H' hm).2) (fun e R' H' hm he => stB_ok _ (h.h4 e R' H' hm he).1) (fun e R' H' hm he => wpB_ok l _ _ (h.h4 e R' H' hm he).2)
def thenQ (K : Regs → Heap → Prop) (Q : Out → Heap → Prop) : Out → Heap → Prop
  | .ex .normal R, H => K R H
  | o, H => Q o H
def blockQ (id : Nat) (Q : Out → Heap → Prop) : Out → Heap → Prop
  | .ex (.exit i) R, H => if i = id then Q (.ex .normal R) H else Q (.ex (.exit i) R) H
  | o, H => Q o H
def wpC (E : Env) : C → Regs → Heap → (Out → Heap → Prop) → Prop
  | .skip, R, H, Q => Q (.ex .normal R) H
  | .ops l, R, H, Q => wpB E l R H fun R' H' => Q (.ex .normal R') H'
  | .seq a b, R, H, Q => wpC E a R H (thenQ (fun R' H' => wpC E b R' H' Q) Q)
  | .cond x a b, R, H, Q => match x.ev R with
    | .bool true => wpC E a R H Q
    | .bool false => wpC E b R H Q
    | _ => False
  | .block id a, R, H, Q => wpC E a R H (blockQ id Q)
  | .exit id, R, H, Q => Q (.ex (.exit id) R) H
  | .ret, R, H, Q => Q (.ex .ret R) H
  | .loop a, R, H, Q => W E (.code (.loop a) R) H Q
  | .rangeF n x ps a b, R, H, Q => W E (.code (.rangeF n x ps a b) R) H Q
theorem wpC_ok {E : Env} : ∀ (c : C) (R : Regs) (H : Heap) (Q : Out → Heap → Prop), wpC E c R H Q → W E (.code c R) H Q
  | .skip, R, H, Q, h => .skip h
  | .ops l, R, H, Q, h => .reg (wpB_ok l R H h)
  | .seq a b, R, H, Q, h => .seq _ (wpC_ok a R H _ h) (fun R' H' hm => wpC_ok b R' H' Q hm) (fun o H' hm hn => by
    cases o with
    | ex e R' => cases e with
      | normal => exact absurd rfl (hn R')
      | exit id => exact hm
      | ret => exact hm
    | val v => exact hm)
  | .cond x a b, R, H, Q, h => by
    simp only [wpC] at h
    split at h
    · rename_i hx; exact .cond true hx (wpC_ok a R H Q h)
    · rename_i hx; exact .cond false hx (wpC_ok b R H Q h)
    · exact h.elim
  | .block id a, R, H, Q, h => .block _ (wpC_ok a R H _ h) (fun R' H' hm => by simpa [blockQ] using hm) (fun o H' hm hn => by
    cases o with
    | ex e R' => cases e with
      | normal => exact hm
      | exit i =>
        simp only [blockQ] at hm
        split at hm
        · rename_i e; subst e; exact absurd rfl (hn R')
        · exact hm
      | ret => exact hm
    | val v => exact hm)
  | .exit id, R, H, Q, h => .exit h
  | .ret, R, H, Q, h => .ret h
  | .loop a, R, H, Q, h => h
  | .rangeF n x ps a b, R, H, Q, h => h
section
variable (E : Env) (R : Regs) (H : Heap) (K : Regs → Heap → Prop) (Q : Out → Heap → Prop) (l : List O) (d : Option Nat) (s : List Rd)
def isT : T → Bool
  | .bool c => c
  | _ => false
def isF : T → Bool
  | .bool c => !c
  | _ => false
def stepB (b : Bo) (g : Gd) (e : Option (T × Heap)) : Prop := match e with
  | some (v, H') => stB R H' s ∧ wpB E l (updo R d v) H' K
  | none => (nilsB R g s b ∧ ∀ t : Bool, wpB E l (updo R d (.bool t)) H K) ∨
    ∃ x bb bi es ix cur, b = .nxt x ∧ x.ev R = .ptr bi 0 ∧ H[bb]? = some (.rmap es ix bi cur) ∧ ∀ t H', NxtTo H bb bi es ix t H' → stB R H' s ∧ wpB E l (updo R d t) H' K
def grdB (b : Bo) (g : Gd) (w : Bool) : Prop := match w with
  | false => wpB E l (updo R d undefT) H K
  | true => stepB E R H K l d s b g (evop R H b)
def contB (v : T) (H' : Heap) : Prop := stB R H' s ∧ wpB E l (updo R d v) H' K
def callB (f : Nat) (az : List T) : Prop := ∃ M : Out → Heap → Prop, W E (.call f az) H M ∧ ∀ v H', M (.val v) H' → contB E R K l d s v H'
def grdC (f : Nat) (az : List X) (w : Bool) : Prop := match w with
  | false => wpB E l (updo R d undefT) H K
  | true => callB E R H K l d s f (az.map (X.ev R))
def callvB (t : T) (az : List X) : Prop := match t with
  | .fn f cs => callB E R H K l d s f (az.map (X.ev R) ++ cs)
  | _ => False
def normK (R : Regs) (H : Heap) : Prop := Q (.ex .normal R) H
def contC (b : C) (R : Regs) (H : Heap) : Prop := wpC E b R H Q
def condC (a b : C) (t : T) : Prop := match t with
  | .bool true => wpC E a R H Q
  | .bool false => wpC E b R H Q
  | _ => False
theorem b_nil : wpB E [] R H K = K R H := rfl
theorem b_b (b : Bo) : wpB E (⟨d, .b b, none, s⟩ :: l) R H K = stepB E R H K l d s b none (evop R H b) := rfl
theorem b_g (b : Bo) (g : Nat × Bool) : wpB E (⟨d, .b b, some g, s⟩ :: l) R H K = grdB E R H K l d s b (some g) (wants R (some g)) := by simp only [wpB, grdB]; rfl
theorem b_c (f : Nat) (az : List X) : wpB E (⟨d, .call f az, none, s⟩ :: l) R H K = callB E R H K l d s f (az.map (X.ev R)) := rfl
theorem b_cg (f : Nat) (az : List X) (g : Nat × Bool) : wpB E (⟨d, .call f az, some g, s⟩ :: l) R H K = grdC E R H K l d s f az (wants R (some g)) := by simp only [wpB, grdC]; rfl
theorem b_v {x : X} {az : List X} (h : callvB E R H K l d s (x.ev R) az) : wpB E (⟨d, .callv x az, none, s⟩ :: l) R H K := by
  unfold callvB at h
  split at h
  · rename_i f cs hx
    obtain ⟨M, h1, h2⟩ := h
    exact .inl ⟨f, cs, M, hx, h1, h2⟩
  · exact h.elim
theorem b_vf {g : Nat × Bool} {x : X} {az : List X} (hg : wants R (some g) = false) : wpB E (⟨d, .callv x az, some g, s⟩ :: l) R H K = wpB E l (updo R d undefT) H K := by
  simp only [wpB, hg]
theorem step_n (neg : Bool) (c : Cls) (x y : X) : stepB E R H K l d s (.eqr neg c x y) none none = ((s = [] ∧ c = .slice ∧ x.ev R = .sl .arg [] ∧ y.ev R = .sl .nil []) ∧ ∀ t : Bool, wpB E l (updo R d (.bool t)) H K) := by simp only [stepB, nilsB, true_and, reduceCtorEq, false_and, exists_false, or_false]
theorem step_s (b : Bo) (g : Gd) (v : T) (H' : Heap) : stepB E R H K l d s b g (some (v, H')) = (stB R H' s ∧ wpB E l (updo R d v) H' K) := rfl
theorem grd_t (b : Bo) (g : Gd) : grdB E R H K l d s b g true = stepB E R H K l d s b g (evop R H b) := rfl
theorem grd_f (b : Bo) (g : Gd) : grdB E R H K l d s b g false = wpB E l (updo R d undefT) H K := rfl
theorem grdc_t (f : Nat) (az : List X) : grdC E R H K l d s f az true = callB E R H K l d s f (az.map (X.ev R)) := rfl
theorem grdc_f (f : Nat) (az : List X) : grdC E R H K l d s f az false = wpB E l (updo R d undefT) H K := rfl
theorem callB_of {f : Nat} {az : List T} (M : Out → Heap → Prop) (h1 : W E (.call f az) H M) (h2 : ∀ v H', M (.val v) H' → stB R H' s ∧ wpB E l (updo R d v) H' K) : callB E R H K l d s f az := ⟨M, h1, h2⟩
theorem c_skip : wpC E .skip R H Q = Q (.ex .normal R) H := rfl
theorem c_ops : wpC E (.ops l) R H Q = wpB E l R H (normK Q) := rfl
theorem norm_ap : normK Q R H = Q (.ex .normal R) H := rfl
theorem c_seq (a b : C) : wpC E (.seq a b) R H Q = wpC E a R H (thenQ (contC E Q b) Q) := rfl
theorem c_cond (x : X) (a b : C) : wpC E (.cond x a b) R H Q = condC E R H Q a b (x.ev R) := rfl
theorem c_block (id : Nat) (a : C) : wpC E (.block id a) R H Q = wpC E a R H (blockQ id Q) := rfl
theorem c_exit (id : Nat) : wpC E (.exit id) R H Q = Q (.ex (.exit id) R) H := rfl
theorem c_ret : wpC E .ret R H Q = Q (.ex .ret R) H := rfl
theorem c_loop (a : C) : wpC E (.loop a) R H Q = W E (.code (.loop a) R) H Q := rfl
theorem c_range (n : Nat) (x : X) (ps : List Nat) (a b : C) : wpC E (.rangeF n x ps a b) R H Q = W E (.code (.rangeF n x ps a b) R) H Q := rfl
theorem cont_ap (b : C) : contC E Q b R H = wpC E b R H Q := rfl
theorem cond_t (a b : C) : condC E R H Q a b (.bool true) = wpC E a R H Q := rfl
theorem cond_f (a b : C) : condC E R H Q a b (.bool false) = wpC E b R H Q := rfl
theorem then_n (R : Regs) (H : Heap) : thenQ K Q (.ex .normal R) H = K R H := rfl
theorem then_r (R : Regs) (H : Heap) : thenQ K Q (.ex .ret R) H = Q (.ex .ret R) H := rfl
theorem then_e (id : Nat) (R : Regs) (H : Heap) : thenQ K Q (.ex (.exit id) R) H = Q (.ex (.exit id) R) H := rfl
theorem blk_n (id : Nat) (R : Regs) (H : Heap) : blockQ id Q (.ex .normal R) H = Q (.ex .normal R) H := rfl
theorem blk_r (id : Nat) (R : Regs) (H : Heap) : blockQ id Q (.ex .ret R) H = Q (.ex .ret R) H := rfl
theorem blk_e (id i : Nat) (R : Regs) (H : Heap) : blockQ id Q (.ex (.exit i) R) H = if i = id then Q (.ex .normal R) H else Q (.ex (.exit i) R) H := rfl
theorem want_t (t : Nat) : wants R (some (t, true)) = isT (R t) := by cases h : R t <;> simp [wants, isT, h]
theorem want_f (t : Nat) : wants R (some (t, false)) = isF (R t) := by cases h : R t <;> simp [wants, isF, h]
theorem isT_b (c : Bool) : isT (.bool c) = c := rfl
theorem isT_u : isT undefT = false := rfl
theorem isF_u : isF undefT = false := rfl
theorem isF_b (c : Bool) : isF (.bool c) = !c := rfl
end
theorem W.loopI {E : Env} {α : Type} {a : C} {R : Regs} {H : Heap} {Q : Out → Heap → Prop} (I : α → Regs → Heap → Prop) (μ : α → Nat) (x : α) (h0 : I x R H)
    (step : ∀ x R H, I x R H → wpC E a R H (thenQ (fun R' H' => ∃ y, μ y < μ x ∧ I y R' H') Q)) : W E (.code (.loop a) R) H Q := by
  have key : ∀ (n : Nat) (x : α) (R : Regs) (H : Heap), μ x = n → I x R H → W E (.code (.loop a) R) H Q := by
    intro n
    induction n using Nat.strongRecOn with
    | _ n ih =>
      intro x R H hn hI
      refine .loop _ (wpC_ok a R H _ (step x R H hI)) (fun R' H' hm => ?_) (fun o H' hm hno => ?_)
      · obtain ⟨y, hy, hI'⟩ := hm
        exact ih (μ y) (hn ▸ hy) y R' H' rfl hI'
      · cases o with
        | ex e R' => cases e with
          | normal => exact absurd rfl (hno R')
          | exit id => exact hm
          | ret => exact hm
        | val v => exact hm
  exact key _ x R H rfl h0
def endQ (res : List Rs) (Q : Out → Heap → Prop) : Out → Heap → Prop
  | .ex .normal R, H | .ex .ret R, H => match resT R H res with
    | some v => Q (.val v) H
    | none => False
  | _, _ => False
theorem W.fnI {E : Env} {f : Nat} {fn : Fn} {az : List T} {H : Heap} {Q : Out → Heap → Prop} (hf : E.fn f = some fn) (hr : fn.body.hasR = false) (hn : az.length = fn.np) (h : wpC E fn.body (regs0 az) H (endQ fn.res Q)) : W E (.call f az) H Q := by
  refine .fn _ hf hr hn (wpC_ok _ _ _ _ h) fun o H' hm => ?_
  cases o with
  | ex e R =>
    cases e with
    | normal => simp only [endQ] at hm; split at hm; exact ⟨R, .inl rfl, _, by assumption, hm⟩; exact hm.elim
    | exit id => exact hm.elim
    | ret => simp only [endQ] at hm; split at hm; exact ⟨R, .inr rfl, _, by assumption, hm⟩; exact hm.elim
  | val v => exact hm.elim
def endR (n : Nat) (res : List Rs) (Q : Out → Heap → Prop) : Out → Heap → Prop
  | .ex .normal R, H | .ex .ret R, H => ∃ bs, marks (R n) = some bs ∧ bs.Nodup ∧ (∀ b ∈ bs, H[b]? = some .dfr) ∧ match resT R (kill H bs) res with
    | some v => Q (.val v) (kill H bs)
    | none => False
  | _, _ => False
theorem W.fnrI {E : Env} {f : Nat} {fn : Fn} {az : List T} {H : Heap} {Q : Out → Heap → Prop} (hf : E.fn f = some fn) (hn : az.length = fn.np) (h : wpC E fn.body (regs0 az) H (endR fn.n fn.res Q)) : W E (.call f az) H Q := by
  refine .fnr _ hf hn (wpC_ok _ _ _ _ h) fun o H' hm => ?_
  cases o with
  | ex e R =>
    cases e with
    | normal => obtain ⟨bs, h1, h2, h3, h4⟩ := hm; split at h4; exact ⟨R, bs, .inl rfl, h1, h2, h3, _, by assumption, h4⟩; exact h4.elim
    | exit id => exact hm.elim
    | ret => obtain ⟨bs, h1, h2, h3, h4⟩ := hm; split at h4; exact ⟨R, bs, .inr rfl, h1, h2, h3, _, by assumption, h4⟩; exact h4.elim
  | val v => exact hm.elim
theorem W.rangeI {E : Env} {n : Nat} {x : X} {ps : List Nat} {asg body : C} {R : Regs} {H : Heap} {Q : Out → Heap → Prop} {f : Nat} {cs : List T} (hx : x.ev R = .fn f cs)
    (h : W E (.call f (.yld (H.length + 1) :: cs)) (H ++ [.dfr, .loop .ready none n R ps asg body]) (fun _ H' => H'[H.length + 1]? = some (.loop .ready none n R ps asg body) ∧ Q (.ex .normal (upd R n (pushMark (R n) H.length))) (H'.set (H.length + 1) .dead))) :
    W E (.code (.rangeF n x ps asg body) R) H Q :=
  .rangeF _ hx h fun _ _ hm => ⟨.ready, none, by simp, by simp, hm.1, hm.2⟩
theorem b_yld {E : Env} {R : Regs} {H : Heap} {K : Regs → Heap → Prop} {l : List O} {d : Option Nat} {s : List Rd} {x : X} {az : List X} {b n : Nat} {R0 : Regs} {ps : List Nat} {asg body : C}
    (hf : x.ev R = .yld b) (hb : H[b]? = some (.loop .ready none n R0 ps asg body)) (hn : az.length = ps.length)
    (h : wpC E asg (setps R0 ps (az.map (X.ev R))) H (fun o H1 => ∃ R1, o = .ex .normal R1 ∧ H1[b]? = some (.loop .ready none n R0 ps asg body) ∧
      wpC E body R1 (H1.set b (.loop .busy none n R0 ps asg body)) (fun o H2 => ∃ R2, o = .ex .normal R2 ∧ H2[b]? = some (.loop .busy none n R0 ps asg body) ∧
        stB R (H2.set b (.loop .ready none n R0 ps asg body)) s ∧ wpB E l (updo R d (.bool true)) (H2.set b (.loop .ready none n R0 ps asg body)) K))) :
    wpB E (⟨d, .callv x az, none, s⟩ :: l) R H K := by
  refine .inr ⟨b, n, R0, ps, asg, body, _, fun o H2 => ∃ R2, o = .ex .normal R2 ∧ H2[b]? = some (.loop .busy none n R0 ps asg body) ∧ stB R (H2.set b (.loop .ready none n R0 ps asg body)) s ∧ wpB E l (updo R d (.bool true)) (H2.set b (.loop .ready none n R0 ps asg body)) K, hf, hb, hn, wpC_ok _ _ _ _ h, ?_, ?_, ?_, ?_, ?_⟩
  · rintro o H' ⟨R1, rfl, h1, _⟩; exact ⟨⟨R1, rfl⟩, h1⟩
  · rintro R1 H1 ⟨_, h0, h1, h2⟩; cases h0; exact wpC_ok _ _ _ _ h2
  · rintro o H' ⟨_, _, h, _⟩; exact h
  · rintro R' H' ⟨_, h0, _, h⟩; exact h
  · rintro e R' H' ⟨_, h0, _⟩ hne; cases h0; exact absurd rfl hne
theorem W.use {E : Env} {j : J} {H : Heap} {Q Q' : Out → Heap → Prop} (h : W E j H Q) (hq : ∀ o H', Q o H' → Q' o H') : W E j H Q' := by
  induction h generalizing Q' with
  | skip h => exact .skip (hq _ _ h)
  | exit h => exact .exit (hq _ _ h)
  | ret h => exact .ret (hq _ _ h)
  | reg _ ih => exact .reg (ih hq)
  | seq M h1 h2 h3 _ ih2 => exact .seq M h1 (fun R' H' hm => ih2 R' H' hm hq) (fun o H' hm hn => hq _ _ (h3 o H' hm hn))
  | cond t hx _ ih => exact .cond t hx (ih hq)
  | block M h1 h2 h3 _ => exact .block M h1 (fun R' H' hm => hq _ _ (h2 R' H' hm)) (fun o H' hm hn => hq _ _ (h3 o H' hm hn))
  | loop M h1 h2 h3 _ ih2 => exact .loop M h1 (fun R' H' hm => ih2 R' H' hm hq) (fun o H' hm hn => hq _ _ (h3 o H' hm hn))
  | nil h => exact .nil (hq _ _ h)
  | no hg _ ih => exact .no hg (ih hq)
  | op hg he hs _ ih => exact .op hg he hs (ih hq)
  | call M hg h1 hs _ _ ih2 => exact .call M hg h1 hs (fun v H' hm => ih2 v H' hm hq)
  | callv M hg hf h1 hs _ _ ih2 => exact .callv M hg hf h1 hs (fun v H' hm => ih2 v H' hm hq)
  | yld M1 M hg hf hb hn h1 h1' h2 h2' hs3 _ hs4 _ _ _ ih3 ih4 => exact .yld M1 M hg hf hb hn h1 h1' h2 h2' hs3 (fun R' H' hm => ih3 R' H' hm hq) hs4 (fun e R' H' hm he => ih4 e R' H' hm he hq)
  | nils hs h hx hy hc ih => exact .nils hs (fun b => ih b hq) hx hy hc
  | rangeF M hx h1 h2 _ => exact .rangeF M hx h1 (fun v H' hm => let ⟨st, pe, a, b, c, d⟩ := h2 v H' hm; ⟨st, pe, a, b, c, hq _ _ d⟩)
  | fnr M hf hn h1 h2 _ => exact .fnr M hf hn h1 (fun o H' hm => let ⟨R', bs, a, b, c, d, v, e, f⟩ := h2 o H' hm; ⟨R', bs, a, b, c, d, v, e, hq _ _ f⟩)
  | fn M hf hr hn h1 h2 _ => exact .fn M hf hr hn h1 (fun o H' hm => let ⟨R', a, v, b, c⟩ := h2 o H' hm; ⟨R', a, v, b, hq _ _ c⟩)
  | revl i M hi h1 h2 _ => exact .revl i M hi h1 (fun v H' hm => hq _ _ (h2 v H' hm))
  | frz M h1 h2 _ => exact .frz M h1 (fun o H' hm => let ⟨v, b, cs, a, c, d, e⟩ := h2 o H' hm; ⟨v, b, cs, a, c, d, hq _ _ e⟩)
  | nxt hg hx hb hs _ ih => exact .nxt hg hx hb hs fun t H' hm => ih t H' hm hq
  | shr M h1 h2 _ => exact .shr M h1 (fun o H' hm => let ⟨v, b, cs, k, a, c, d, e⟩ := h2 o H' hm; ⟨v, b, cs, k, a, c, d, hq _ _ e⟩)
  | prim h => exact .prim (E.mono _ _ _ _ _ h fun t H' hm => hq _ _ hm)
theorem wpB_mono {E : Env} {K K' : Regs → Heap → Prop} (hk : ∀ R H, K R H → K' R H) : ∀ (l : List O) (R : Regs) (H : Heap), wpB E l R H K → wpB E l R H K'
  | [], R, H, h => hk _ _ h
  | ⟨d, .b b, g, s⟩ :: l, R, H, h => by
    simp only [wpB] at h ⊢
    split at h
    · exact wpB_mono hk l _ _ h
    · split at h
      · exact ⟨h.1, wpB_mono hk l _ _ h.2⟩
      · rcases h with h | ⟨x, bb, bi, es, ix, cur, e, hx, hb, h⟩
        · exact .inl ⟨h.1, fun t => wpB_mono hk l _ _ (h.2 t)⟩
        · exact .inr ⟨x, bb, bi, es, ix, cur, e, hx, hb, fun t H' hm => ⟨(h t H' hm).1, wpB_mono hk l _ _ (h t H' hm).2⟩⟩
  | ⟨d, .call f az, g, s⟩ :: l, R, H, h => by
    simp only [wpB] at h ⊢
    split at h
    · exact wpB_mono hk l _ _ h
    · obtain ⟨M, h1, h2⟩ := h
      exact ⟨M, h1, fun v H' hm => ⟨(h2 v H' hm).1, wpB_mono hk l _ _ (h2 v H' hm).2⟩⟩
  | ⟨d, .callv x az, g, s⟩ :: l, R, H, h => by
    simp only [wpB] at h ⊢
    split at h
    · exact wpB_mono hk l _ _ h
    · rcases h with ⟨f, cs, M, hf, h1, h2⟩ | ⟨b, n, R0, ps, asg, body, M1, M, h⟩
      · exact .inl ⟨f, cs, M, hf, h1, fun v H' hm => ⟨(h2 v H' hm).1, wpB_mono hk l _ _ (h2 v H' hm).2⟩⟩
      · exact .inr ⟨b, n, R0, ps, asg, body, M1, M, ⟨h.hf, h.hb, h.hn, h.h1, h.h1', h.h2, h.h2', fun R' H' hm => ⟨(h.h3 R' H' hm).1, wpB_mono hk l _ _ (h.h3 R' H' hm).2⟩, fun e R' H' hm he => ⟨(h.h4 e R' H' hm he).1, wpB_mono hk l _ _ (h.h4 e R' H' hm he).2⟩⟩⟩
theorem wpC_mono {E : Env} : ∀ (c : C) (R : Regs) (H : Heap) {Q Q' : Out → Heap → Prop}, (∀ o H, Q o H → Q' o H) → wpC E c R H Q → wpC E c R H Q'
  | .skip, R, H, Q, Q', hq, h => hq _ _ h
  | .ops l, R, H, Q, Q', hq, h => wpB_mono (fun R H h => hq _ _ h) l R H h
  | .seq a b, R, H, Q, Q', hq, h => wpC_mono a R H (fun o H' h => by
    cases o with
    | ex e R' => cases e with
      | normal => exact wpC_mono b R' H' hq h
      | exit id => exact hq _ _ h
      | ret => exact hq _ _ h
    | val v => exact hq _ _ h) h
  | .cond x a b, R, H, Q, Q', hq, h => by
    simp only [wpC] at h ⊢
    split at h
    · exact wpC_mono a R H hq h
    · exact wpC_mono b R H hq h
    · exact h.elim
  | .block id a, R, H, Q, Q', hq, h => wpC_mono a R H (fun o H' h => by
    cases o with
    | ex e R' => cases e with
      | normal => exact hq _ _ h
      | exit i => simp only [blockQ] at h ⊢; split at h <;> (rename_i e; simp only [e, if_true, if_false]; exact hq _ _ h)
      | ret => exact hq _ _ h
    | val v => exact hq _ _ h) h
  | .exit id, R, H, Q, Q', hq, h => hq _ _ h
  | .ret, R, H, Q, Q', hq, h => hq _ _ h
  | .loop a, R, H, Q, Q', hq, h => W.use h hq
  | .rangeF n x ps a b, R, H, Q, Q', hq, h => W.use h hq
end Go.Rmp
end

section
namespace Go.Rmp
def Ret (v : T) (H : Heap) : Out → Heap → Prop := fun o H' => o = .val v ∧ H' = H
theorem ret_val (v v' : T) (H H' : Heap) : Ret v H (.val v') H' = (v' = v ∧ H' = H) := by simp [Ret]
theorem regs0_1 (a b : T) (l : List T) : regs0 (a :: b :: l) 1 = b := rfl
theorem regs0_2 (a b c : T) (l : List T) : regs0 (a :: b :: c :: l) 2 = c := rfl
theorem regs0_3 (a b c d : T) (l : List T) : regs0 (a :: b :: c :: d :: l) 3 = d := rfl
theorem regs0_4 (a b c d e : T) (l : List T) : regs0 (a :: b :: c :: d :: e :: l) 4 = e := rfl
def RetG (v : T) (H : Heap) : Out → Heap → Prop := fun o H' => o = .val v ∧ ∃ l, H' = H ++ l
theorem retg_val (v v' : T) (H l : Heap) : RetG v H (.val v') (H ++ l) = (v' = v) := by simp [RetG]
theorem retg_same (v v' : T) (H : Heap) : RetG v H (.val v') H = (v' = v) := by
  simp only [RetG, Out.val.injEq, eq_iff_iff]
  exact ⟨fun h => h.1, fun h => ⟨h, [], by simp⟩⟩
theorem natOf_nat (k : IntKind) (n : Nat) : natOf (.int k (n : Int)) = some n := by simp [natOf]
theorem wrap64 {n : Int} (h : -9223372036854775808 ≤ n ∧ n < 9223372036854775808) : IntKind.i64.wrap n = n := by
  unfold IntKind.wrap
  simp only [IntKind.signed, IntKind.bits]
  simp
  omega
theorem wrapu64 {n : Int} (h : 0 ≤ n ∧ n < 18446744073709551616) : IntKind.u64.wrap n = n := by
  unfold IntKind.wrap
  simp only [IntKind.signed, IntKind.bits]
  simp
  omega
theorem wrap_succ {i : Nat} (h : i < 9223372036854775807) : IntKind.i64.wrap ((i : Int) + 1) = ((i + 1 : Nat) : Int) := by rw [wrap64 (by omega)]; simp
theorem wrap_pred {i : Nat} (h : i < 9223372036854775807) (h1 : 1 ≤ i) : IntKind.i64.wrap ((i : Int) - 1) = ((i - 1 : Nat) : Int) := by rw [wrap64 (by omega)]; omega
theorem val1 (v : T) : valOf false [v] = some v := rfl
theorem valA (cs : List T) : valOf true cs = some (.agg cs) := rfl
theorem dlt (a b : Nat) : decide ((a : Int) < (b : Int)) = decide (a < b) := by simp
theorem dle (a b : Nat) : decide ((a : Int) ≤ (b : Int)) = decide (a ≤ b) := by simp
theorem deq (a b : Nat) : ((a : Int) == (b : Int)) = decide (a = b) := by rw [Bool.eq_iff_iff]; simp; omega
theorem dne (a b : Nat) : ((a : Int) != (b : Int)) = !decide (a = b) := by rw [Bool.eq_iff_iff]; simp; omega
end Go.Rmp
end

section
namespace Go.Rmp
theorem bl_irr : ∀ (a : List UInt8), Op.bytesLess a a = false
  | [] => rfl
  | x :: a => by simp [Op.bytesLess, bl_irr a]
theorem bl_trans : ∀ (a b c : List UInt8), Op.bytesLess a b = true → Op.bytesLess b c = true → Op.bytesLess a c = true
  | _, [], _, h, _ => by cases ‹List UInt8› <;> simp [Op.bytesLess] at h
  | _, _ :: _, [], _, h => by simp [Op.bytesLess] at h
  | [], _ :: _, _ :: _, _, _ => rfl
  | x :: a, y :: b, z :: c, h1, h2 => by
    simp only [Op.bytesLess, Bool.or_eq_true, decide_eq_true_eq, Bool.and_eq_true, beq_iff_eq] at h1 h2 ⊢
    rcases h1 with h1 | ⟨rfl, h1⟩
    · rcases h2 with h2 | ⟨rfl, h2⟩
      · exact .inl (UInt8.lt_trans h1 h2)
      · exact .inl h1
    · rcases h2 with h2 | ⟨rfl, h2⟩
      · exact .inl h2
      · exact .inr ⟨rfl, bl_trans a b c h1 h2⟩
theorem bl_tri : ∀ (a b : List UInt8), Op.bytesLess a b = false → Op.bytesLess b a = false → a = b
  | [], [], _, _ => rfl
  | [], _ :: _, h, _ => by simp [Op.bytesLess] at h
  | _ :: _, [], _, h => by simp [Op.bytesLess] at h
  | x :: a, y :: b, h1, h2 => by
    simp only [Op.bytesLess, Bool.or_eq_false_iff, decide_eq_false_iff_not, Bool.and_eq_false_iff, beq_eq_false_iff_ne] at h1 h2
    have e : x = y := by
      have a1 := h1.1; have a2 := h2.1
      exact UInt8.le_antisymm (UInt8.not_lt.1 a2) (UInt8.not_lt.1 a1)
    subst e
    rw [bl_tri a b (h1.2.resolve_left (fun h => h rfl)) (h2.2.resolve_left (fun h => h rfl))]
theorem toList_inj {a b : ByteArray} (h : a.toList = b.toList) : a = b := by
  have e : ∀ c : ByteArray, c.toList = c.data.toList := fun c => Go.ByteArray.toList_eq c
  rw [e, e] at h
  cases a; cases b
  simp only [ByteArray.mk.injEq]
  exact Array.toList_inj.1 h
theorem strEq_eq (a b : ByteArray) : strEq a b = decide (a = b) := by
  unfold strEq
  rw [Bool.eq_iff_iff]
  simp only [beq_iff_eq, decide_eq_true_eq]
  exact ⟨toList_inj, fun h => by rw [h]⟩
theorem lt_irr (a : ByteArray) : strLt a a = false := bl_irr _
theorem lt_trans' {a b c : ByteArray} (h1 : strLt a b = true) (h2 : strLt b c = true) : strLt a c = true := bl_trans _ _ _ h1 h2
theorem lt_tri {a b : ByteArray} (h1 : strLt a b = false) (h2 : strLt b a = false) : a = b := toList_inj (bl_tri _ _ h1 h2)
theorem lt_asymm {a b : ByteArray} (h : strLt a b = true) : strLt b a = false := by
  cases e : strLt b a with
  | false => rfl
  | true => have := lt_trans' h e; rw [lt_irr] at this; cases this
theorem not_le (a b : ByteArray) : (!(strLt b a || strEq b a)) = strLt a b := by
  cases h : strLt a b with
  | true =>
    have h1 := lt_asymm h
    have h2 : strEq b a = false := by rw [strEq_eq]; simp; rintro rfl; rw [lt_irr] at h; cases h
    simp [h1, h2]
  | false =>
    cases h1 : strLt b a with
    | true => simp
    | false => have := lt_tri h h1; subst this; simp [strEq_eq]
end Go.Rmp
end

section
namespace Go.Rmp
def At (H : Heap) (P : Heap → Prop) : Prop := P H
theorem At.i {H : Heap} {P : Heap → Prop} (h : P H) : At H P := h
def Ext (H H' : Heap) : Prop := ∃ m, H' = H ++ m
theorem Ext.rfl' {H : Heap} : Ext H H := ⟨[], by simp⟩
theorem Ext.trans {H H' H'' : Heap} (h : Ext H H') (h' : Ext H' H'') : Ext H H'' := by
  obtain ⟨a, rfl⟩ := h; obtain ⟨b, rfl⟩ := h'; exact ⟨a ++ b, by simp⟩
theorem Ext.app {H H' : Heap} (h : Ext H H') (l : Heap) : Ext H (H' ++ l) := h.trans ⟨l, rfl⟩
theorem Ext.set {H H' : Heap} (h : Ext H H') {b : Nat} (hb : H.length ≤ b) (x : B) : Ext H (H'.set b x) := by
  obtain ⟨m, rfl⟩ := h
  exact ⟨m.set (b - H.length) x, by rw [List.set_append_right _ _ hb]⟩
theorem Ext.get {H H' : Heap} (h : Ext H H') {b : Nat} {x : B} (hx : H[b]? = some x) : H'[b]? = some x := by
  obtain ⟨m, rfl⟩ := h
  have := (List.getElem?_eq_some_iff.1 hx).1
  rw [List.getElem?_append_left this]; exact hx
theorem Ext.len {H H' : Heap} (h : Ext H H') : H.length ≤ H'.length := by obtain ⟨m, rfl⟩ := h; simp
theorem glt {H : Heap} {b : Nat} {x : B} (hx : H[b]? = some x) : b < H.length := (List.getElem?_eq_some_iff.1 hx).1
theorem g_tail {H l : Heap} {x : B} {b : Nat} (h : b = H.length) : (H ++ x :: l)[b]? = some x := by subst h; simp
theorem g_app {H l : Heap} {b : Nat} (h : b < H.length) : (H ++ l)[b]? = H[b]? := by rw [List.getElem?_append_left h]
theorem g_eq {H : Heap} {x : B} {b : Nat} (h : b < H.length) : (H.set b x)[b]? = some x := by simp [h]
theorem g_ne {H : Heap} {x : B} {b c : Nat} (h : b ≠ c) : (H.set b x)[c]? = H[c]? := by simp [h]
theorem s_tail {H l : Heap} {x y : B} {b : Nat} (h : b = H.length) : (H ++ x :: l).set b y = H ++ y :: l := by subst h; simp
theorem s_app {H l : Heap} {x : B} {b : Nat} (h : b < H.length) : (H ++ l).set b x = H.set b x ++ l := by rw [List.set_append_left _ _ h]
theorem l_app {H l : Heap} {b : Nat} (h : b < H.length) : (b < (H ++ l).length) = True := by simp; omega
theorem l_set {H : Heap} {x : B} {b c : Nat} : (b < (H.set c x).length) = (b < H.length) := by simp
theorem e_set {H : Heap} {x : B} {b c : Nat} : (b = (H.set c x).length) = (b = H.length) := by simp
def ldcB (n off : Nat) : Option B → Option (List T)
  | some (.cells cs) => if off + n ≤ cs.length then some ((cs.drop off).take n) else none
  | _ => none
theorem ldc_ptr (H : Heap) (n b off : Nat) : ldc H n (.ptr b off) = ldcB n off H[b]? := by
  simp only [ldc, ldcB]; rfl
theorem ldc_iptr (H : Heap) (n : Nat) (cs : List T) : ldc H n (.iptr cs) = if n ≤ cs.length then some (cs.take n) else none := rfl
theorem ldcB_c (n off : Nat) (cs : List T) : ldcB n off (some (.cells cs)) = if off + n ≤ cs.length then some ((cs.drop off).take n) else none := rfl
def stcB (H : Heap) (b : Nat) (vs : List T) (off : Nat) : Option B → Option Heap
  | some (.cells cs) => if off + vs.length ≤ cs.length then some (H.set b (.cells (cs.take off ++ vs ++ cs.drop (off + vs.length)))) else none
  | _ => none
theorem stc_ptr (H : Heap) (vs : List T) (b off : Nat) : stc H vs (.ptr b off) = stcB H b vs off H[b]? := by
  simp only [stc, stcB]; rfl
theorem stcB_c (H : Heap) (b : Nat) (vs : List T) (off : Nat) (cs : List T) : stcB H b vs off (some (.cells cs)) = if off + vs.length ≤ cs.length then some (H.set b (.cells (cs.take off ++ vs ++ cs.drop (off + vs.length)))) else none := rfl
theorem hset_tail (H l : Heap) (x y : B) : (H ++ x :: l).set H.length y = H ++ y :: l := s_tail rfl
theorem fad_ptr (off b o : Nat) : fadT off (.ptr b o) = some (.ptr b (o + off)) := rfl
def exitQ (id : Nat) (P : Regs → Heap → Prop) (Q : Out → Heap → Prop) : Out → Heap → Prop
  | .ex (.exit i) R, H => if i = id then P R H else Q (.ex (.exit i) R) H
  | o, H => Q o H
theorem ex_n (id : Nat) (P : Regs → Heap → Prop) (Q : Out → Heap → Prop) (R : Regs) (H : Heap) : exitQ id P Q (.ex .normal R) H = Q (.ex .normal R) H := rfl
theorem ex_r (id : Nat) (P : Regs → Heap → Prop) (Q : Out → Heap → Prop) (R : Regs) (H : Heap) : exitQ id P Q (.ex .ret R) H = Q (.ex .ret R) H := rfl
theorem ex_e (id i : Nat) (P : Regs → Heap → Prop) (Q : Out → Heap → Prop) (R : Regs) (H : Heap) : exitQ id P Q (.ex (.exit i) R) H = if i = id then P R H else Q (.ex (.exit i) R) H := rfl
theorem W.loopE {E : Env} {α : Type} {a : C} {R : Regs} {H : Heap} {Q : Out → Heap → Prop} (id : Nat) (I : α → Regs → Heap → Prop) (μ : α → Nat) (x : α) (P : Regs → Heap → Prop) (h0 : I x R H)
    (step : ∀ x R H, I x R H → wpC E a R H (thenQ (fun R' H' => ∃ y, μ y < μ x ∧ I y R' H') (exitQ id P Q))) (rest : ∀ R H, P R H → Q (.ex (.exit id) R) H) : W E (.code (.loop a) R) H Q :=
  W.use (W.loopI I μ x h0 step) fun o H' h => by
    cases o with
    | ex e R' => cases e with
      | exit i => simp only [exitQ] at h; split at h; rename_i e; subst e; exact rest _ _ h; exact h
      | normal => exact h
      | ret => exact h
    | val v => exact h
def mlook {α β : Type} [DecidableEq α] (es : List (α × β)) (k : α) : Option β := (es.find? fun e => decide (k = e.1)).map (·.2)
def mput {α β : Type} [DecidableEq α] (es : List (α × β)) (k : α) (v : β) : List (α × β) :=
  match es.findIdx? fun e => decide (k = e.1) with
  | some i => es.set i (k, v)
  | none => es ++ [(k, v)]
section
variable {α β : Type} [DecidableEq α]
theorem mlook_nil (k : α) : mlook ([] : List (α × β)) k = none := rfl
theorem mlook_cons (e : α × β) (es : List (α × β)) (k : α) : mlook (e :: es) k = if k = e.1 then some e.2 else mlook es k := by
  unfold mlook; rw [List.find?_cons]; by_cases h : k = e.1 <;> simp [h]
theorem mput_nil (k : α) (v : β) : mput [] k v = [(k, v)] := rfl
theorem mput_cons (e : α × β) (es : List (α × β)) (k : α) (v : β) : mput (e :: es) k v = if k = e.1 then (k, v) :: es else e :: mput es k v := by
  unfold mput; rw [List.findIdx?_cons]
  by_cases h : k = e.1
  · simp [h]
  · simp only [h, decide_false, if_false, Bool.false_eq_true]
    cases List.findIdx? (fun e => decide (k = e.1)) es <;> simp
theorem mlook_put (es : List (α × β)) (k k' : α) (v : β) : mlook (mput es k v) k' = if k' = k then some v else mlook es k' := by
  induction es with
  | nil => rw [mput_nil, mlook_cons]
  | cons e es ih =>
    rw [mput_cons]
    by_cases h : k = e.1
    · simp only [h, if_true, mlook_cons]; by_cases h' : k' = e.1 <;> simp [h']
    · simp only [h, if_false, mlook_cons, ih]
      by_cases h' : k' = e.1
      · subst h'; simp [Ne.symm h]
      · simp [h']
theorem mlook_idx (es : List (α × β)) (k : α) : mlook es k = match es.findIdx? fun e => decide (k = e.1) with
    | some i => (es[i]?).map (·.2)
    | none => none := by
  induction es with
  | nil => rfl
  | cons e es ih =>
    rw [mlook_cons, List.findIdx?_cons]
    by_cases h : k = e.1
    · simp [h]
    · simp only [h, if_false, decide_false, Bool.false_eq_true, ih]
      cases List.findIdx? (fun e => decide (k = e.1)) es <;> simp
theorem idx_some {es : List (α × β)} {k : α} {i : Nat} (h : (es.findIdx? fun e => decide (k = e.1)) = some i) : ∃ v, es[i]? = some (k, v) := by
  rw [List.findIdx?_eq_some_iff_getElem] at h
  obtain ⟨hi, h, -⟩ := h
  refine ⟨es[i].2, ?_⟩
  rw [List.getElem?_eq_getElem hi]
  simp only [decide_eq_true_eq] at h
  rw [h]
end
def encK {α : Type} (ek : α → T) (es : List (α × T)) : List (T × T) := es.map fun e => (ek e.1, e.2)
structure KeyOk {α : Type} [DecidableEq α] (kt : KT) (ek : α → T) : Prop where
  has : ∀ a, (ek a).hasK kt = true
  eq : ∀ a b, keyEq (ek a) (ek b) = some (decide (a = b))
section
variable {α : Type} [DecidableEq α] {kt : KT} {ek : α → T}
theorem mfindK (ho : KeyOk kt ek) (k : α) : ∀ es : List (α × T), mfind (ek k) (encK ek es) = some (es.findIdx? fun e => decide (k = e.1))
  | [] => rfl
  | e :: es => by
    have ih := mfindK ho k es
    simp only [encK] at ih ⊢
    simp only [List.map_cons, mfind, ho.eq, List.findIdx?_cons]
    cases h : decide (k = e.1)
    · simp [ih]
    · simp
def lkpT (o : Option T) (z : T) (ok : Bool) : T := match o with
  | some v => if ok then .tup [v, .bool true] else v
  | none => if ok then .tup [z, .bool false] else z
def lkpB (kt : KT) (z : T) (ok : Bool) (H : Heap) (mb : Option B) (k : T) : Option (T × Heap) := match mb with
  | some (.map es) => if k.hasK kt then match mfind k es with
    | some (some i) => match es[i]? with
      | some e => some (if ok then .tup [e.2, .bool true] else e.2, H)
      | none => none
    | some none => some (if ok then .tup [z, .bool false] else z, H)
    | none => none else none
  | some (.rmap es _ _ _) => if k.hasK kt then match mfind k es with
    | some (some i) => match es[i]? with
      | some e => some (if ok then .tup [e.2, .bool true] else e.2, H)
      | none => none
    | some none => some (if ok then .tup [z, .bool false] else z, H)
    | none => none else none
  | _ => none
def lkpV (kt : KT) (z : T) (ok : Bool) (H : Heap) (m k : T) : Option (T × Heap) := match m with
  | .map b => lkpB kt z ok H H[b]? k
  | .nilm => if k.hasK kt then some (if ok then .tup [z, .bool false] else z, H) else none
  | _ => none
theorem ev_lkp (R : Regs) (H : Heap) (kt : KT) (z : T) (ok : Bool) (m k : X) : evop R H (.lkp kt z ok m k) = lkpV kt z ok H (m.ev R) (k.ev R) := by
  unfold lkpV lkpB
  simp only [evop]
  cases h1 : (k.ev R).hasK kt
  · simp only [Bool.false_eq_true, if_false]
    cases m.ev R with
    | map b => simp only; split <;> rfl
    | _ => rfl
  · simp only [if_true]
    cases m.ev R with
    | map b =>
      simp only [mapEs]
      cases H[b]? with
      | none => rfl
      | some x => cases x <;> rfl
    | nilm => simp only [mapEs, mfind]
    | _ => rfl
theorem lkpV_map (kt : KT) (z : T) (ok : Bool) (H : Heap) (b : Nat) (k : T) : lkpV kt z ok H (.map b) k = lkpB kt z ok H H[b]? k := rfl
theorem lkpB_K (ho : KeyOk kt ek) (z : T) (ok : Bool) (H : Heap) (es : List (α × T)) (s : α) : lkpB kt z ok H (some (.map (encK ek es))) (ek s) = some (lkpT (mlook es s) z ok, H) := by
  simp only [lkpB, ho.has, mfindK ho, if_true, mlook_idx]
  cases h : List.findIdx? (fun e => decide (s = e.1)) es with
  | none => cases ok <;> rfl
  | some i =>
    obtain ⟨v, hv⟩ := idx_some h
    have : (encK ek es)[i]? = some (ek s, v) := by simp [encK, hv]
    simp only [this, hv, lkpT, Option.map_some]
def upmB (kt : KT) (H : Heap) (b : Nat) (mb : Option B) (k v : T) : Option (T × Heap) := match mb with
  | some (.map es) => if k.hasK kt then match mfind k es with
    | some (some i) => some (undefT, H.set b (.map (es.set i (k, v))))
    | some none => some (undefT, H.set b (.map (es ++ [(k, v)])))
    | none => none else none
  | _ => none
def upmV (kt : KT) (H : Heap) (m k v : T) : Option (T × Heap) := match m with
  | .map b => upmB kt H b H[b]? k v
  | _ => none
theorem ev_upm (R : Regs) (H : Heap) (kt : KT) (m k v : X) : evop R H (.upm kt m k v) = upmV kt H (m.ev R) (k.ev R) (v.ev R) := by
  unfold upmV upmB
  simp only [evop]
  cases m.ev R with
  | map b =>
    simp only
    cases h1 : (k.ev R).hasK kt
    · simp only [Bool.false_eq_true, if_false]; split <;> rfl
    · simp only [if_true]
      cases H[b]? with
      | none => rfl
      | some x => cases x <;> rfl
  | _ => rfl
def delB (kt : KT) (H : Heap) (b : Nat) (mb : Option B) (k : T) : Option (T × Heap) := match mb with
  | some (.map es) => if k.hasK kt then match mfind k es with
    | some (some i) => some (.tup [], H.set b (.map (es.eraseIdx i)))
    | some none => some (.tup [], H)
    | none => none else none
  | _ => none
def delV (kt : KT) (H : Heap) (m k : T) : Option (T × Heap) := match m with
  | .map b => delB kt H b H[b]? k
  | _ => none
theorem ev_del (R : Regs) (H : Heap) (kt : KT) (m k : X) : evop R H (.del kt m k) = delV kt H (m.ev R) (k.ev R) := by
  unfold delV delB
  simp only [evop]
  cases m.ev R with
  | map b =>
    simp only
    cases h1 : (k.ev R).hasK kt
    · simp only [Bool.false_eq_true, if_false]; split <;> rfl
    · simp only [if_true]
      cases H[b]? with
      | none => rfl
      | some x => cases x <;> rfl
  | _ => rfl
theorem delV_map (kt : KT) (H : Heap) (b : Nat) (k : T) : delV kt H (.map b) k = delB kt H b H[b]? k := rfl
def rngB (H : Heap) (b : Nat) : Option B → Option (T × Heap)
  | some (.map es) => some (.ptr H.length 0, H.set b (.rmap es (List.range es.length) H.length none) ++ [.itr b])
  | some (.rmap es _ _ _) => some (.ptr H.length 0, H.set b (.rmap es (List.range es.length) H.length none) ++ [.itr b])
  | _ => none
def rngV (H : Heap) : T → Option (T × Heap)
  | .map b => rngB H b H[b]?
  | _ => none
theorem ev_rng (R : Regs) (H : Heap) (x : X) : evop R H (.rng x) = rngV H (x.ev R) := by
  simp only [evop]
  cases x.ev R with
  | map b =>
    simp only [mapEs, rngV]
    cases H[b]? with
    | none => rfl
    | some y => cases y <;> rfl
  | _ => rfl
theorem rngV_map (H : Heap) (b : Nat) : rngV H (.map b) = rngB H b H[b]? := rfl
theorem rngB_M (H : Heap) (b : Nat) (es : List (T × T)) : rngB H b (some (.map es)) = some (.ptr H.length 0, H.set b (.rmap es (List.range es.length) H.length none) ++ [.itr b]) := rfl
theorem ev_nxt (R : Regs) (H : Heap) (x : X) : evop R H (.nxt x) = none := rfl
def entC (H : Heap) (bi : Nat) : Option B → Option (T × Heap)
  | some (.rmap es _ bi' (some c)) => if bi' = bi then (es[c]?).map fun e => (.tup [e.1, e.2], H) else none
  | _ => none
def entB (H : Heap) (bi : Nat) : Option B → Option (T × Heap)
  | some (.itr b) => entC H bi H[b]?
  | _ => none
def entV (H : Heap) : T → Option (T × Heap)
  | .ptr bi 0 => entB H bi H[bi]?
  | _ => none
theorem ev_ent (R : Regs) (H : Heap) (x : X) : evop R H (.ent x) = entV H (x.ev R) := by
  simp only [evop]
  cases x.ev R with
  | ptr bi o =>
    cases o with
    | zero =>
      simp only [entV]
      cases H[bi]? with
      | none => rfl
      | some y => cases y with
        | itr b =>
          simp only [entB]
          cases H[b]? with
          | none => rfl
          | some z => cases z with
            | rmap es ix bi' cur => cases cur <;> rfl
            | _ => rfl
        | _ => rfl
    | succ _ => rfl
  | _ => rfl
theorem entV_ptr (H : Heap) (bi : Nat) : entV H (.ptr bi 0) = entB H bi H[bi]? := rfl
theorem entB_I (H : Heap) (bi b : Nat) : entB H bi (some (.itr b)) = entC H bi H[b]? := rfl
theorem entC_R (H : Heap) (bi : Nat) (es : List (T × T)) (ix : List Nat) (c : Nat) : entC H bi (some (.rmap es ix bi (some c))) = (es[c]?).map fun e => (.tup [e.1, e.2], H) := by simp only [entC, if_true]
def clrB (H : Heap) (b off len n n' : Nat) (z : List T) : Option B → Option (T × Heap)
  | some (.cells cs) => if n' = n ∧ z.length = n ∧ off + len * n ≤ cs.length then some (undefT, H.set b (.cells (cs.take off ++ (List.replicate len z).flatten ++ cs.drop (off + len * n)))) else none
  | _ => none
def clrV (H : Heap) (n : Nat) (z : List T) : T → Option (T × Heap)
  | .msl b off len n' => clrB H b off len n n' z H[b]?
  | _ => none
theorem ev_clr (R : Regs) (H : Heap) (n : Nat) (z : List T) (x : X) : evop R H (.clr n z x) = clrV H n z (x.ev R) := by
  simp only [evop]
  cases x.ev R with
  | msl b off len n' =>
    simp only [clrV]
    cases H[b]? with
    | none => rfl
    | some y => cases y <;> rfl
  | _ => rfl
theorem clrV_msl (H : Heap) (n : Nat) (z : List T) (b off len n' : Nat) : clrV H n z (.msl b off len n') = clrB H b off len n n' z H[b]? := rfl
theorem upmV_map (kt : KT) (H : Heap) (b : Nat) (k v : T) : upmV kt H (.map b) k v = upmB kt H b H[b]? k v := rfl
theorem upmB_K (ho : KeyOk kt ek) (H : Heap) (b : Nat) (es : List (α × T)) (s : α) (v : T) : upmB kt H b (some (.map (encK ek es))) (ek s) v = some (undefT, H.set b (.map (encK ek (mput es s v)))) := by
  simp only [upmB, ho.has, mfindK ho, if_true, mput]
  cases h : List.findIdx? (fun e => decide (s = e.1)) es with
  | none => simp [encK]
  | some i => simp [encK]
end
theorem kStr : KeyOk (.sc .str) T.str := ⟨fun _ => rfl, fun a b => by simp only [keyEq, eqSc, strEq_eq]⟩
def kU (n : Nat) : T := .int .u64 n
theorem kNat : KeyOk (.sc .int) kU := ⟨fun _ => rfl, fun a b => by simp only [kU, keyEq, eqSc, if_true, deq]⟩
theorem lkpB_M (z : T) (ok : Bool) (H : Heap) (es : List (ByteArray × T)) (s : ByteArray) : lkpB (.sc .str) z ok H (some (.map (encK T.str es))) (.str s) = some (lkpT (mlook es s) z ok, H) := lkpB_K kStr z ok H es s
theorem lkpB_N (z : T) (ok : Bool) (H : Heap) (es : List (Nat × T)) (s : Nat) : lkpB (.sc .int) z ok H (some (.map (encK kU es))) (.int .u64 s) = some (lkpT (mlook es s) z ok, H) := lkpB_K kNat z ok H es s
theorem upmB_M (H : Heap) (b : Nat) (es : List (ByteArray × T)) (s : ByteArray) (v : T) : upmB (.sc .str) H b (some (.map (encK T.str es))) (.str s) v = some (undefT, H.set b (.map (encK T.str (mput es s v)))) := upmB_K kStr H b es s v
theorem upmB_N (H : Heap) (b : Nat) (es : List (Nat × T)) (s : Nat) (v : T) : upmB (.sc .int) H b (some (.map (encK kU es))) (.int .u64 s) v = some (undefT, H.set b (.map (encK kU (mput es s v)))) := upmB_K kNat H b es s v
theorem lkp_some (v z : T) : lkpT (some v) z false = v := rfl
theorem lkp_none (z : T) : lkpT none z false = z := rfl
theorem lkp_some2 (v z : T) : lkpT (some v) z true = .tup [v, .bool true] := rfl
theorem lkp_none2 (z : T) : lkpT none z true = .tup [z, .bool false] := rfl
end Go.Rmp
end

section
namespace Go.Rmp
theorem cells_agg (l : List T) : (T.agg l).cells? = some l := rfl
theorem cells_int (k : IntKind) (n : Int) : (T.int k n).cells? = some [.int k n] := rfl
theorem cells_str (s : ByteArray) : (T.str s).cells? = some [.str s] := rfl
theorem cells_bool (s : Bool) : (T.bool s).cells? = some [.bool s] := rfl
theorem cells_sl (k : SK) (l : List (List T)) : (T.sl k l).cells? = some [.sl k l] := rfl
theorem cells_msl (a b c d : Nat) : (T.msl a b c d).cells? = some [.msl a b c d] := rfl
theorem cells_map (b : Nat) : (T.map b).cells? = some [.map b] := rfl
theorem cells_ptr (a b : Nat) : (T.ptr a b).cells? = some [.ptr a b] := rfl
theorem cells_nilm : (T.nilm).cells? = some [.nilm] := rfl
theorem cells_nilp : (T.nilp).cells? = some [.nilp] := rfl
theorem tup1 (v : T) : tupT [v] = v := rfl
theorem tup2 (v w : T) : tupT [v, w] = .tup [v, w] := rfl
theorem tup3 (v w x : T) : tupT [v, w, x] = .tup [v, w, x] := rfl
theorem er_int (k : IntKind) (n : Int) : (T.int k n).erase = .int k n := rfl
theorem er_str (s : ByteArray) : (T.str s).erase = .str s := rfl
theorem er_bool (s : Bool) : (T.bool s).erase = .bool s := rfl
theorem er_sl (k : SK) (l : List (List T)) : (T.sl k l).erase = .sl .arg l := rfl
theorem er_ptr (a b : Nat) : (T.ptr a b).erase = .ptr a b := rfl
theorem er_map (b : Nat) : (T.map b).erase = .map b := rfl
theorem er_nilm : (T.nilm).erase = .nilm := rfl
theorem er_nilp : (T.nilp).erase = .nilp := rfl
theorem el_sl (H : Heap) (n : Nat) (k : SK) (es : List (List T)) : elemsOf H n (.sl k es) = if es.all (·.length == n) then some es else none := rfl
theorem want_n (R : Regs) : wants R Option.none = true := rfl
theorem tr_imp (p : Prop) : (True → p) = p := by simp
theorem im_tr (p : Prop) : (p → True) = True := by simp
theorem imp_t (p : Prop) : (true = true → p) = p := by simp
theorem imp_f (p : Prop) : (false = true → p) = True := by simp
theorem un_not (b : Bool) : unT .not (.bool b) = some (.bool !b) := rfl
theorem bi_add (k : IntKind) (a b : Int) : binT .add (.int k a) (.int k b) = some (.int k (k.wrap (a + b))) := by simp [binT]
theorem bi_sub (k : IntKind) (a b : Int) : binT .sub (.int k a) (.int k b) = some (.int k (k.wrap (a - b))) := by simp [binT]
theorem bi_mul (k : IntKind) (a b : Int) : binT .mul (.int k a) (.int k b) = some (.int k (k.wrap (a * b))) := by simp [binT]
theorem bi_quo (k : IntKind) (a b : Int) : binT .quo (.int k a) (.int k b) = if b = 0 then none else some (.int k (k.wrap (a.tdiv b))) := by simp [binT]
theorem bi_rem (k : IntKind) (a b : Int) : binT .rem (.int k a) (.int k b) = if b = 0 then none else some (.int k (a.tmod b)) := by simp [binT]
theorem bi_shl (k k' : IntKind) (a b : Int) : binT .shl (.int k a) (.int k' b) = if b < 0 then none else some (.int k (k.wrap (a * 2 ^ (min b.toNat k.bits)))) := by simp [binT]
theorem bi_shr (k k' : IntKind) (a b : Int) : binT .shr (.int k a) (.int k' b) = if b < 0 then none else some (.int k (a.fdiv (2 ^ (min b.toNat k.bits)))) := by simp [binT]
theorem bi_and (k : IntKind) (a b : Int) : binT .and (.int k a) (.int k b) = some (.int k (k.wrap (BitVec.ofInt k.bits a &&& BitVec.ofInt k.bits b).toNat)) := by simp [binT]
theorem bi_or (k : IntKind) (a b : Int) : binT .or (.int k a) (.int k b) = some (.int k (k.wrap (BitVec.ofInt k.bits a ||| BitVec.ofInt k.bits b).toNat)) := by simp [binT]
theorem bi_xor (k : IntKind) (a b : Int) : binT .xor (.int k a) (.int k b) = some (.int k (k.wrap (BitVec.ofInt k.bits a ^^^ BitVec.ofInt k.bits b).toNat)) := by simp [binT]
theorem bi_eql (k : IntKind) (a b : Int) : binT .eql (.int k a) (.int k b) = some (.bool (a == b)) := by simp [binT]
theorem bi_neq (k : IntKind) (a b : Int) : binT .neq (.int k a) (.int k b) = some (.bool (a != b)) := by simp [binT]
theorem bi_lss (k : IntKind) (a b : Int) : binT .lss (.int k a) (.int k b) = some (.bool (a < b)) := by simp [binT]
theorem bi_leq (k : IntKind) (a b : Int) : binT .leq (.int k a) (.int k b) = some (.bool (a ≤ b)) := by simp [binT]
theorem bi_gtr (k : IntKind) (a b : Int) : binT .gtr (.int k a) (.int k b) = some (.bool (b < a)) := by simp [binT]
theorem bi_geq (k : IntKind) (a b : Int) : binT .geq (.int k a) (.int k b) = some (.bool (b ≤ a)) := by simp [binT]
theorem bs_eql (a b : ByteArray) : binT .eql (.str a) (.str b) = some (.bool (decide (a = b))) := by simp [binT, strEq_eq]
theorem bs_neq (a b : ByteArray) : binT .neq (.str a) (.str b) = some (.bool (!decide (a = b))) := by simp [binT, strEq_eq]
theorem bs_lss (a b : ByteArray) : binT .lss (.str a) (.str b) = some (.bool (strLt a b)) := by rfl
theorem bs_leq (a b : ByteArray) : binT .leq (.str a) (.str b) = some (.bool (!strLt b a)) := by have := not_le b a; simp only [binT, Option.some.injEq, T.bool.injEq]; rw [← this]; simp
theorem bs_gtr (a b : ByteArray) : binT .gtr (.str a) (.str b) = some (.bool (strLt b a)) := by have := not_le b a; simp only [binT, Option.some.injEq, T.bool.injEq]; exact this
theorem bs_geq (a b : ByteArray) : binT .geq (.str a) (.str b) = some (.bool (!strLt a b)) := by rfl
theorem bs_add (a b : ByteArray) : binT .add (.str a) (.str b) = if a.size + b.size ≤ 9223372036854775807 then some (.str (a ++ b)) else none := rfl
theorem lit_lt (a b : Nat) : decide ((a : Int) < (no_index (OfNat.ofNat b))) = decide (a < OfNat.ofNat b) := dlt a b
theorem lit_gt (a b : Nat) : decide ((no_index (OfNat.ofNat b) : Int) < (a : Int)) = decide (OfNat.ofNat b < a) := dlt b a
theorem lit_le (a b : Nat) : decide ((a : Int) ≤ (no_index (OfNat.ofNat b))) = decide (a ≤ OfNat.ofNat b) := dle a b
theorem lit_ge (a b : Nat) : decide ((no_index (OfNat.ofNat b) : Int) ≤ (a : Int)) = decide (OfNat.ofNat b ≤ a) := dle b a
theorem lit_eq (a b : Nat) : ((a : Int) == (no_index (OfNat.ofNat b))) = decide (a = OfNat.ofNat b) := deq a b
theorem lit_ne (a b : Nat) : ((a : Int) != (no_index (OfNat.ofNat b))) = !decide (a = OfNat.ofNat b) := dne a b
set_option linter.defProp false in
theorem S1 : type_of% (And.intro (@b_vf) <| And.intro (@evop.eq_37) <| And.intro (@evop.eq_38) <| And.intro (@evop.eq_43) <| And.intro (@evop.eq_44) <| And.intro (@evop.eq_45) <| And.intro (@ex_n) <| And.intro (@ex_r) <| And.intro (@ex_e) <| And.intro (@bnd.eq_1) <| And.intro (@bnd.eq_2) <| And.intro (@want_n) <| And.intro (@tr_imp) <| And.intro (@im_tr) <| And.intro (@imp_t) <| And.intro (@imp_f) <| And.intro (@step_n) <| And.intro (@List.nil_append.{0}) <| And.intro (@List.append_nil.{0}) <| And.intro (@List.cons_append.{0}) <| And.intro (@er_int) <| And.intro (@er_str) <| And.intro (@er_bool) <| And.intro (@er_sl) <| And.intro (@er_ptr) <| And.intro (@er_map) <| And.intro (@er_nilm) <| And.intro (@er_nilp) <| And.intro (@el_sl) <| And.intro (@partsT.eq_1) <| And.intro (@partsT.eq_2) <| And.intro (@fillT.eq_1) <| And.intro (@fillT.eq_2) <| And.intro (@fillE.eq_1) <| And.intro (@fillE.eq_2) <| And.intro (@fillM.eq_1) <| And.intro (@fillM.eq_2) <| And.intro (@List.replicate_zero.{0}) <| And.intro (@List.replicate_succ.{0}) <| And.intro (@List.set_cons_zero.{0}) <| And.intro (@List.set_cons_succ.{0}) <| And.intro (@List.all_cons.{0}) <| And.intro (@List.all_nil.{0}) <| And.intro (@Bool.and_true) <| And.intro (@Bool.true_and) <| And.intro (@ldc_iptr) <| And.intro (@ldc_ptr) <| And.intro (@ldcB_c) <| And.intro (@stc_ptr) <| And.intro (@stcB_c) <| And.intro (@fad_ptr) <| And.intro (@lit_lt) <| And.intro (@lit_gt) <| And.intro (@lit_le) <| And.intro (@lit_ge) <| And.intro (@lit_eq) <| And.intro (@lit_ne) <| And.intro (@b_nil) <| And.intro (@b_b) <| And.intro (@b_g) <| And.intro (@b_c) <| And.intro (@b_cg) <| And.intro (@step_s) <| And.intro (@grd_t) <| And.intro (@grd_f) <| And.intro (@grdc_t) <| And.intro (@grdc_f) <| And.intro (@c_skip) <| And.intro (@c_ops) <| And.intro (@norm_ap) <| And.intro (@c_seq) <| And.intro (@c_cond) <| And.intro (@c_block) <| And.intro (@c_exit) <| And.intro (@c_ret) <| And.intro (@c_loop) <| And.intro (@c_range) <| And.intro (@cont_ap) <| And.intro (@cond_t) <| And.intro (@cond_f) <| And.intro (@then_n) <| And.intro (@then_r) <| And.intro (@then_e) <| And.intro (@blk_n) <| And.intro (@blk_r) <| And.intro (@blk_e) <| And.intro (@Bool.false_eq_true) <| And.intro (@want_t) <| And.intro (@want_f) <| And.intro (@isT_b) <| And.intro (@isF_b) <| And.intro (@isT_u) <| And.intro (@isF_u) <| And.intro (@retg_val) <| And.intro (@retg_same) <| And.intro (@List.length_cons.{0}) <| And.intro (@List.length_nil.{0}) <| And.intro (@List.drop_succ_cons.{0}) <| And.intro (@List.drop_zero.{0}) <| And.intro (@List.take_succ_cons.{0}) <| And.intro (@List.take_zero.{0}) <| And.intro (@cells_agg) <| And.intro (@cells_int) <| And.intro (@cells_str) <| And.intro (@cells_bool) <| And.intro (@cells_sl) <| And.intro (@cells_msl) <| And.intro (@cells_map) <| And.intro (@cells_ptr) <| And.intro (@cells_nilm) <| And.intro (@cells_nilp) <| And.intro (@fadT.eq_1) <| And.intro (@fadT.eq_2) <| And.intro (@Nat.zero_add) <| And.intro (@ev_r) <| And.intro (@ev_c) <| And.intro (@stB.eq_1) <| And.intro (@stB.eq_2) <| And.intro (@updo_s) <| And.intro (@updo_n) <| And.intro (@upd_ap) <| And.intro (@regs0_0) <| And.intro (@regs0_1) <| And.intro (@regs0_2) <| And.intro (@regs0_3) <| And.intro (@regs0_4) <| And.intro (@true_and) <| And.intro (@and_true) <| And.intro (@Option.map_some.{0,0}) <| And.intro (@Option.bind_some.{0,0}) <| And.intro (@un_not) <| And.intro (@lenT.eq_1) <| And.intro (@lenT.eq_2) <| And.intro (@lenT.eq_3) <| And.intro (@lenT.eq_4) <| And.intro (@lenT.eq_5) <| And.intro (@natOf_nat) <| And.intro (@val1) <| And.intro (@valA) <| And.intro (@endQ.eq_1) <| And.intro (@endQ.eq_2) <| And.intro (@resT.eq_1) <| And.intro (@resL.eq_1) <| And.intro (@resL.eq_2) <| And.intro (@resV.eq_1) <| And.intro (@resV.eq_2) <| And.intro (@tup1) <| And.intro (@tup2) <| And.intro (@tup3) <| And.intro (@dlt) <| And.intro (@dle) <| And.intro (@deq) <| And.intro (@dne) <| And.intro (@List.map_cons.{0,0}) <| And.intro (@List.map_nil.{0,0}) <| And.intro (@decide_true) <| And.intro (@decide_false) <| And.intro (@strEq_eq) <| And.intro (@Bool.not_true) <| And.intro (@Bool.not_false) <| And.intro (@beq_self_eq_true.{0}) <| And.intro (@bne_self_eq_false.{0}) <| And.intro (@List.getElem?_cons_zero.{0}) <| And.intro (@List.getElem?_cons_succ.{0}) <| And.intro (@List.getElem?_nil.{0}) <| And.intro (@List.length_map.{0,0}) <| And.intro (@ret_val) <| And.intro (@T.bool.injEq) <| And.intro (@T.int.injEq) <| And.intro (@T.str.injEq) <| And.intro (@T.tup.injEq) <| And.intro (@evop.eq_1) <| And.intro (@evop.eq_2) <| And.intro (@evop.eq_3) <| And.intro (@evop.eq_4) <| And.intro (@evop.eq_5) <| And.intro (@evop.eq_6) <| And.intro (@evop.eq_7) <| And.intro (@evop.eq_8) <| And.intro (@evop.eq_9) <| And.intro (@evop.eq_10) <| And.intro (@evop.eq_11) <| And.intro (@evop.eq_12) <| And.intro (@evop.eq_13) <| And.intro (@evop.eq_14) <| And.intro (@evop.eq_15) <| And.intro (@evop.eq_16) <| And.intro (@evop.eq_17) <| And.intro (@evop.eq_18) <| And.intro (@evop.eq_19) <| And.intro (@evop.eq_20) <| And.intro (@evop.eq_21) <| And.intro (@evop.eq_22) <| And.intro (@evop.eq_23) <| And.intro (@evop.eq_24) <| And.intro (@evop.eq_25) <| And.intro (@evop.eq_26) <| And.intro (@ev_del) <| And.intro (@delV_map) <| And.intro (@ev_rng) <| And.intro (@rngV_map) <| And.intro (@rngB_M) <| And.intro (@ev_nxt) <| And.intro (@ev_ent) <| And.intro (@entV_ptr) <| And.intro (@entB_I) <| And.intro (@entC_R) <| And.intro (@ev_clr) <| And.intro (@clrV_msl) <| And.intro (@evop.eq_30) <| And.intro (@evop.eq_31) <| And.intro (@evop.eq_32) <| And.intro (@evop.eq_33) <| And.intro (@evop.eq_34) <| And.intro (@evop.eq_35) <| And.intro (@evop.eq_36) <| And.intro (@ev_lkp) <| And.intro (@ev_upm) <| And.intro (@lkpV_map) <| And.intro (@lkpB_M) <| And.intro (@lkpB_N) <| And.intro (@upmV_map) <| And.intro (@upmB_M) <| And.intro (@upmB_N) <| And.intro (@lkp_some) <| And.intro (@lkp_none) <| And.intro (@lkp_some2) <| And.intro (@lkp_none2) <| And.intro (@bi_add) <| And.intro (@bi_sub) <| And.intro (@bi_mul) <| And.intro (@bi_quo) <| And.intro (@bi_rem) <| And.intro (@bi_shl) <| And.intro (@bi_shr) <| And.intro (@bi_and) <| And.intro (@bi_or) <| And.intro (@bi_xor) <| And.intro (@bi_eql) <| And.intro (@bi_neq) <| And.intro (@bi_lss) <| And.intro (@bi_leq) <| And.intro (@bi_gtr) <| And.intro (@bi_geq) <| And.intro (@bs_eql) <| And.intro (@bs_neq) <| And.intro (@bs_lss) <| And.intro (@bs_leq) <| And.intro (@bs_gtr) <| And.intro (@bs_geq) <| (@bs_add)) := And.intro (@b_vf) <| And.intro (@evop.eq_37) <| And.intro (@evop.eq_38) <| And.intro (@evop.eq_43) <| And.intro (@evop.eq_44) <| And.intro (@evop.eq_45) <| And.intro (@ex_n) <| And.intro (@ex_r) <| And.intro (@ex_e) <| And.intro (@bnd.eq_1) <| And.intro (@bnd.eq_2) <| And.intro (@want_n) <| And.intro (@tr_imp) <| And.intro (@im_tr) <| And.intro (@imp_t) <| And.intro (@imp_f) <| And.intro (@step_n) <| And.intro (@List.nil_append.{0}) <| And.intro (@List.append_nil.{0}) <| And.intro (@List.cons_append.{0}) <| And.intro (@er_int) <| And.intro (@er_str) <| And.intro (@er_bool) <| And.intro (@er_sl) <| And.intro (@er_ptr) <| And.intro (@er_map) <| And.intro (@er_nilm) <| And.intro (@er_nilp) <| And.intro (@el_sl) <| And.intro (@partsT.eq_1) <| And.intro (@partsT.eq_2) <| And.intro (@fillT.eq_1) <| And.intro (@fillT.eq_2) <| And.intro (@fillE.eq_1) <| And.intro (@fillE.eq_2) <| And.intro (@fillM.eq_1) <| And.intro (@fillM.eq_2) <| And.intro (@List.replicate_zero.{0}) <| And.intro (@List.replicate_succ.{0}) <| And.intro (@List.set_cons_zero.{0}) <| And.intro (@List.set_cons_succ.{0}) <| And.intro (@List.all_cons.{0}) <| And.intro (@List.all_nil.{0}) <| And.intro (@Bool.and_true) <| And.intro (@Bool.true_and) <| And.intro (@ldc_iptr) <| And.intro (@ldc_ptr) <| And.intro (@ldcB_c) <| And.intro (@stc_ptr) <| And.intro (@stcB_c) <| And.intro (@fad_ptr) <| And.intro (@lit_lt) <| And.intro (@lit_gt) <| And.intro (@lit_le) <| And.intro (@lit_ge) <| And.intro (@lit_eq) <| And.intro (@lit_ne) <| And.intro (@b_nil) <| And.intro (@b_b) <| And.intro (@b_g) <| And.intro (@b_c) <| And.intro (@b_cg) <| And.intro (@step_s) <| And.intro (@grd_t) <| And.intro (@grd_f) <| And.intro (@grdc_t) <| And.intro (@grdc_f) <| And.intro (@c_skip) <| And.intro (@c_ops) <| And.intro (@norm_ap) <| And.intro (@c_seq) <| And.intro (@c_cond) <| And.intro (@c_block) <| And.intro (@c_exit) <| And.intro (@c_ret) <| And.intro (@c_loop) <| And.intro (@c_range) <| And.intro (@cont_ap) <| And.intro (@cond_t) <| And.intro (@cond_f) <| And.intro (@then_n) <| And.intro (@then_r) <| And.intro (@then_e) <| And.intro (@blk_n) <| And.intro (@blk_r) <| And.intro (@blk_e) <| And.intro (@Bool.false_eq_true) <| And.intro (@want_t) <| And.intro (@want_f) <| And.intro (@isT_b) <| And.intro (@isF_b) <| And.intro (@isT_u) <| And.intro (@isF_u) <| And.intro (@retg_val) <| And.intro (@retg_same) <| And.intro (@List.length_cons.{0}) <| And.intro (@List.length_nil.{0}) <| And.intro (@List.drop_succ_cons.{0}) <| And.intro (@List.drop_zero.{0}) <| And.intro (@List.take_succ_cons.{0}) <| And.intro (@List.take_zero.{0}) <| And.intro (@cells_agg) <| And.intro (@cells_int) <| And.intro (@cells_str) <| And.intro (@cells_bool) <| And.intro (@cells_sl) <| And.intro (@cells_msl) <| And.intro (@cells_map) <| And.intro (@cells_ptr) <| And.intro (@cells_nilm) <| And.intro (@cells_nilp) <| And.intro (@fadT.eq_1) <| And.intro (@fadT.eq_2) <| And.intro (@Nat.zero_add) <| And.intro (@ev_r) <| And.intro (@ev_c) <| And.intro (@stB.eq_1) <| And.intro (@stB.eq_2) <| And.intro (@updo_s) <| And.intro (@updo_n) <| And.intro (@upd_ap) <| And.intro (@regs0_0) <| And.intro (@regs0_1) <| And.intro (@regs0_2) <| And.intro (@regs0_3) <| And.intro (@regs0_4) <| And.intro (@true_and) <| And.intro (@and_true) <| And.intro (@Option.map_some.{0,0}) <| And.intro (@Option.bind_some.{0,0}) <| And.intro (@un_not) <| And.intro (@lenT.eq_1) <| And.intro (@lenT.eq_2) <| And.intro (@lenT.eq_3) <| And.intro (@lenT.eq_4) <| And.intro (@lenT.eq_5) <| And.intro (@natOf_nat) <| And.intro (@val1) <| And.intro (@valA) <| And.intro (@endQ.eq_1) <| And.intro (@endQ.eq_2) <| And.intro (@resT.eq_1) <| And.intro (@resL.eq_1) <| And.intro (@resL.eq_2) <| And.intro (@resV.eq_1) <| And.intro (@resV.eq_2) <| And.intro (@tup1) <| And.intro (@tup2) <| And.intro (@tup3) <| And.intro (@dlt) <| And.intro (@dle) <| And.intro (@deq) <| And.intro (@dne) <| And.intro (@List.map_cons.{0,0}) <| And.intro (@List.map_nil.{0,0}) <| And.intro (@decide_true) <| And.intro (@decide_false) <| And.intro (@strEq_eq) <| And.intro (@Bool.not_true) <| And.intro (@Bool.not_false) <| And.intro (@beq_self_eq_true.{0}) <| And.intro (@bne_self_eq_false.{0}) <| And.intro (@List.getElem?_cons_zero.{0}) <| And.intro (@List.getElem?_cons_succ.{0}) <| And.intro (@List.getElem?_nil.{0}) <| And.intro (@List.length_map.{0,0}) <| And.intro (@ret_val) <| And.intro (@T.bool.injEq) <| And.intro (@T.int.injEq) <| And.intro (@T.str.injEq) <| And.intro (@T.tup.injEq) <| And.intro (@evop.eq_1) <| And.intro (@evop.eq_2) <| And.intro (@evop.eq_3) <| And.intro (@evop.eq_4) <| And.intro (@evop.eq_5) <| And.intro (@evop.eq_6) <| And.intro (@evop.eq_7) <| And.intro (@evop.eq_8) <| And.intro (@evop.eq_9) <| And.intro (@evop.eq_10) <| And.intro (@evop.eq_11) <| And.intro (@evop.eq_12) <| And.intro (@evop.eq_13) <| And.intro (@evop.eq_14) <| And.intro (@evop.eq_15) <| And.intro (@evop.eq_16) <| And.intro (@evop.eq_17) <| And.intro (@evop.eq_18) <| And.intro (@evop.eq_19) <| And.intro (@evop.eq_20) <| And.intro (@evop.eq_21) <| And.intro (@evop.eq_22) <| And.intro (@evop.eq_23) <| And.intro (@evop.eq_24) <| And.intro (@evop.eq_25) <| And.intro (@evop.eq_26) <| And.intro (@ev_del) <| And.intro (@delV_map) <| And.intro (@ev_rng) <| And.intro (@rngV_map) <| And.intro (@rngB_M) <| And.intro (@ev_nxt) <| And.intro (@ev_ent) <| And.intro (@entV_ptr) <| And.intro (@entB_I) <| And.intro (@entC_R) <| And.intro (@ev_clr) <| And.intro (@clrV_msl) <| And.intro (@evop.eq_30) <| And.intro (@evop.eq_31) <| And.intro (@evop.eq_32) <| And.intro (@evop.eq_33) <| And.intro (@evop.eq_34) <| And.intro (@evop.eq_35) <| And.intro (@evop.eq_36) <| And.intro (@ev_lkp) <| And.intro (@ev_upm) <| And.intro (@lkpV_map) <| And.intro (@lkpB_M) <| And.intro (@lkpB_N) <| And.intro (@upmV_map) <| And.intro (@upmB_M) <| And.intro (@upmB_N) <| And.intro (@lkp_some) <| And.intro (@lkp_none) <| And.intro (@lkp_some2) <| And.intro (@lkp_none2) <| And.intro (@bi_add) <| And.intro (@bi_sub) <| And.intro (@bi_mul) <| And.intro (@bi_quo) <| And.intro (@bi_rem) <| And.intro (@bi_shl) <| And.intro (@bi_shr) <| And.intro (@bi_and) <| And.intro (@bi_or) <| And.intro (@bi_xor) <| And.intro (@bi_eql) <| And.intro (@bi_neq) <| And.intro (@bi_lss) <| And.intro (@bi_leq) <| And.intro (@bi_gtr) <| And.intro (@bi_geq) <| And.intro (@bs_eql) <| And.intro (@bs_neq) <| And.intro (@bs_lss) <| And.intro (@bs_leq) <| And.intro (@bs_gtr) <| And.intro (@bs_geq) <| (@bs_add)
theorem S2 : type_of% (And.intro (@not_false_eq_true) <| And.intro (@ne_eq.{1}) <| And.intro (@Nat.lt_succ_self) <| And.intro (@g_tail) <| And.intro (@g_app) <| And.intro (@g_eq) <| And.intro (@g_ne) <| And.intro (@s_tail) <| And.intro (@s_app) <| And.intro (@l_app) <| And.intro (@l_set) <| And.intro (@e_set) <| And.intro (@List.nil_append.{0}) <| And.intro (@List.append_nil.{0}) <| And.intro (@List.cons_append.{0}) (@List.drop_nil.{0})) := And.intro (@not_false_eq_true) <| And.intro (@ne_eq.{1}) <| And.intro (@Nat.lt_succ_self) <| And.intro (@g_tail) <| And.intro (@g_app) <| And.intro (@g_eq) <| And.intro (@g_ne) <| And.intro (@s_tail) <| And.intro (@s_app) <| And.intro (@l_app) <| And.intro (@l_set) <| And.intro (@e_set) <| And.intro (@List.nil_append.{0}) <| And.intro (@List.append_nil.{0}) <| And.intro (@List.cons_append.{0}) (@List.drop_nil.{0})
theorem l_one (H : Heap) (x : B) : (H ++ [x]).length = H.length + 1 := by simp
theorem lt_s {b n : Nat} (h : b < n) : (b < n + 1) = True := by simp; omega
theorem S3 : type_of% (And.intro (@l_one) <| And.intro (@lt_s) (@Nat.add_assoc)) := And.intro (@l_one) <| And.intro (@lt_s) (@Nat.add_assoc)
end Go.Rmp
end

section
namespace Go.Rmp
section
variable {α : Type} {enc : α → List T} {n : Nat}
def msC (enc : α → List T) (xs : List α) : List T := xs.flatMap enc
theorem msC_len (hn : ∀ x, (enc x).length = n) : ∀ xs : List α, (msC enc xs).length = xs.length * n
  | [] => by simp [msC]
  | x :: xs => by
    have := msC_len hn xs
    simp only [msC, List.flatMap_cons, List.length_append, hn, List.length_cons] at this ⊢
    rw [this, Nat.add_mul]; omega
theorem msC_drop (hn : ∀ x, (enc x).length = n) : ∀ (xs : List α) (i : Nat), (msC enc xs).drop (i * n) = msC enc (xs.drop i)
  | xs, 0 => by simp
  | [], i + 1 => by simp [msC]
  | x :: xs, i + 1 => by
    have := msC_drop hn xs i
    simp only [msC, List.flatMap_cons, List.drop_succ_cons] at this ⊢
    rw [show (i + 1) * n = (enc x).length + i * n by rw [hn, Nat.add_mul]; omega, List.drop_append, List.drop_eq_nil_of_le (by omega)]
    simp [this]
theorem msC_take (hn : ∀ x, (enc x).length = n) : ∀ (xs : List α) (i : Nat), (msC enc xs).take (i * n) = msC enc (xs.take i)
  | xs, 0 => by simp [msC]
  | [], i + 1 => by simp [msC]
  | x :: xs, i + 1 => by
    have := msC_take hn xs i
    simp only [msC, List.flatMap_cons, List.take_succ_cons] at this ⊢
    rw [show (i + 1) * n = (enc x).length + i * n by rw [hn, Nat.add_mul]; omega, List.take_append, List.take_of_length_le (by omega)]
    simp [this]
theorem msC_get (hn : ∀ x, (enc x).length = n) {xs : List α} {i : Nat} {x : α} (hx : xs[i]? = some x) (off m : Nat) (h : off + m ≤ n) : ldcB m (i * n + off) (some (.cells (msC enc xs))) = some (((enc x).drop off).take m) := by
  have hi := (List.getElem?_eq_some_iff.1 hx).1
  have h1 : i * n + n ≤ xs.length * n := by rw [← Nat.succ_mul]; exact Nat.mul_le_mul_right n hi
  have e : (msC enc xs).drop (i * n) = enc x ++ msC enc (xs.drop (i + 1)) := by
    rw [msC_drop hn, List.drop_eq_getElem_cons hi]
    have : xs[i] = x := (List.getElem?_eq_some_iff.1 hx).2
    rw [this]; rfl
  rw [ldcB_c, if_pos (by rw [msC_len hn]; omega), ← List.drop_drop, e, List.drop_append, List.take_append, hn]
  rw [show m - ((enc x).drop off).length = 0 by rw [List.length_drop, hn]; omega]
  simp
theorem msC_set (hn : ∀ x, (enc x).length = n) {xs : List α} {i : Nat} {x y : α} (hx : xs[i]? = some x) (H : Heap) (b : Nat) (vs : List T) (off : Nat) (h : off + vs.length ≤ n) (hy : enc y = (enc x).take off ++ vs ++ (enc x).drop (off + vs.length)) :
    stcB H b vs (i * n + off) (some (.cells (msC enc xs))) = some (H.set b (.cells (msC enc (xs.set i y)))) := by
  have hi := (List.getElem?_eq_some_iff.1 hx).1
  have hxi : xs[i] = x := (List.getElem?_eq_some_iff.1 hx).2
  have h1 : i * n + n ≤ xs.length * n := by rw [← Nat.succ_mul]; exact Nat.mul_le_mul_right n hi
  rw [stcB_c, if_pos (by rw [msC_len hn]; omega)]
  have e : (msC enc xs).drop (i * n) = enc x ++ msC enc (xs.drop (i + 1)) := by
    rw [msC_drop hn, List.drop_eq_getElem_cons hi, hxi]; rfl
  have t : (msC enc xs).take (i * n + off) = msC enc (xs.take i) ++ (enc x).take off := by
    rw [List.take_add, msC_take hn, e, List.take_append, hn, show off - n = 0 by omega]; simp
  have d : (msC enc xs).drop (i * n + off + vs.length) = (enc x).drop (off + vs.length) ++ msC enc (xs.drop (i + 1)) := by
    rw [Nat.add_assoc, ← List.drop_drop, e, List.drop_append, hn, show off + vs.length - n = 0 by omega]; simp
  rw [t, d]
  have : xs.set i y = xs.take i ++ y :: xs.drop (i + 1) := by rw [List.set_eq_take_append_cons_drop, if_pos hi]
  rw [this]
  simp only [msC, List.flatMap_append, List.flatMap_cons, hy, List.append_assoc]
theorem msC_rep (k : Nat) (z : α) : (List.replicate k (enc z)).flatten = msC enc (List.replicate k z) := by
  induction k with
  | zero => rfl
  | succ k ih => simp only [List.replicate_succ, List.flatten_cons, ih, msC, List.flatMap_cons]
end
theorem iad_m (n i b off len : Nat) : iadT n i (.msl b off len n) = if i < len then if n = 0 then none else some (.ptr b (off + i * n)) else none := by
  simp only [iadT, true_and, ne_eq]
  by_cases h : i < len <;> by_cases h' : n = 0 <;> simp [h, h']
def eU (n : Nat) : List T := [.int .u64 n]
def eI (n : Nat) : List T := [.int .i64 n]
def Apd (n0 : Nat) (H : Heap) (k : SK) : Prop := k = .nil ∨ k = .full ∨ ∃ t e, k = .own t e ∧ n0 ≤ t ∧ H[t]? = some (.tok e)
structure Stay (n0 : Nat) (H : Heap) (k : SK) (H' : Heap) : Prop where
  len : H.length ≤ H'.length
  get : ∀ b x, H[b]? = some x → (∀ e, k ≠ .own b e) → H'[b]? = some x
  ext : ∀ H0 : Heap, H0.length ≤ n0 → Ext H0 H → Ext H0 H'
theorem Stay.cells {n0 : Nat} {H H' : Heap} {k : SK} (h : Stay n0 H k H') (ha : Apd n0 H k) {b : Nat} {x : B} (hx : H[b]? = some x) (ht : ∀ e, x ≠ .tok e) : H'[b]? = some x := h.get b x hx fun e he => by
  rcases ha with h | h | ⟨t, e', h, _, h'⟩
  · rw [he] at h; cases h
  · rw [he] at h; cases h
  · rw [he] at h; cases h; rw [hx] at h'; cases h'; exact ht _ rfl
theorem app_ok {n0 : Nat} {H : Heap} {k : SK} {bytes : Nat} (es new : List (List T)) (hk : Apd n0 H k) (hn0 : n0 ≤ H.length) (hnew : new ≠ []) (hr : roomOk (es.length + new.length) bytes = true) :
    ∃ k' H', appT H bytes k es new = some (.sl k' (es ++ new.map (·.map T.erase)), H') ∧ Apd n0 H' k' ∧ Stay n0 H k H' := by
  unfold appT
  cases new with
  | nil => exact absurd rfl hnew
  | cons c new =>
    simp only [hr, if_true]
    rcases hk with rfl | rfl | ⟨t, e, rfl, ht, hg⟩
    · exact ⟨_, _, rfl, .inr (.inr ⟨_, _, rfl, hn0, g_tail rfl⟩), ⟨by simp, fun b x hx _ => by rw [g_app (glt hx)]; exact hx, fun H0 _ h => h.app _⟩⟩
    · exact ⟨_, _, rfl, .inr (.inr ⟨_, _, rfl, hn0, g_tail rfl⟩), ⟨by simp, fun b x hx _ => by rw [g_app (glt hx)]; exact hx, fun H0 _ h => h.app _⟩⟩
    · simp only [hg, if_true]
      refine ⟨_, _, rfl, .inr (.inr ⟨_, _, rfl, ht, g_eq (glt hg)⟩), ⟨by simp, fun b x hx hne => ?_, fun H0 h0 h => h.set (Nat.le_trans h0 ht) _⟩⟩
      have : t ≠ b := fun h => hne e (by rw [h])
      rw [g_ne this]; exact hx
theorem apd_nil (n0 : Nat) (H : Heap) : Apd n0 H .nil := .inl rfl
theorem Apd.ext {n0 : Nat} {H H' : Heap} {k : SK} (h : Apd n0 H k) (hx : Ext H H') : Apd n0 H' k := by
  rcases h with h | h | ⟨t, e, h, h1, h2⟩
  · exact .inl h
  · exact .inr (.inl h)
  · exact .inr (.inr ⟨t, e, h, h1, hx.get h2⟩)
theorem Apd.set {n0 : Nat} {H : Heap} {k : SK} (h : Apd n0 H k) {c : Nat} {x : B} (hx : H[c]? = some x) (ht : ∀ e, x ≠ .tok e) (y : B) : Apd n0 (H.set c y) k := by
  rcases h with h | h | ⟨t, e, h, h1, h2⟩
  · exact .inl h
  · exact .inr (.inl h)
  · refine .inr (.inr ⟨t, e, h, h1, ?_⟩)
    have : c ≠ t := fun he => by subst he; rw [hx] at h2; cases h2; exact ht _ rfl
    rw [g_ne this]; exact h2
theorem endR_r {n b : Nat} {res : List Rs} {Q : Out → Heap → Prop} {R : Regs} {H : Heap} (h : R n = .tup [.ptr b 0]) (hd : H[b]? = some .dfr)
    (hq : match resT R (H.set b .dead) res with | some v => Q (.val v) (H.set b .dead) | none => False) : endR n res Q (.ex .ret R) H :=
  ⟨[b], by rw [h]; rfl, by simp, by simp [hd], hq⟩
theorem push0 (b : Nat) : pushMark (.tup []) b = .tup [.ptr b 0] := rfl
theorem roomT {n m : Nat} (h : (n + n / 4 + 512) * m ≤ 281474976710656) : roomOk n m = true := by simp [roomOk, h]
theorem all_map {α : Type} {enc : α → List T} {n : Nat} (hn : ∀ x, (enc x).length = n) (l : List α) : (l.map enc).all (fun c => c.length == n) = true := by simp [hn]
def Mut {α : Type} (enc : α → List T) (n n0 : Nat) (H : Heap) (t : T) (l : List α) : Prop :=
  (l = [] ∧ t = .sl .nil []) ∨ ∃ b, t = .msl b 0 l.length n ∧ H[b]? = some (.cells (msC enc l)) ∧ n0 ≤ b
theorem mut_nil {α : Type} (enc : α → List T) (n n0 : Nat) (H : Heap) : Mut enc n n0 H (.sl .nil []) [] := .inl ⟨rfl, rfl⟩
theorem Mut.ext {α : Type} {enc : α → List T} {n n0 : Nat} {H H' : Heap} {t : T} {l : List α} (h : Mut enc n n0 H t l) (hx : Ext H H') : Mut enc n n0 H' t l := by
  rcases h with h | ⟨b, h1, h2, h3⟩
  · exact .inl h
  · exact .inr ⟨b, h1, hx.get h2, h3⟩
theorem Mut.len {α : Type} {enc : α → List T} {n n0 : Nat} {H : Heap} {t : T} {l : List α} (h : Mut enc n n0 H t l) : lenT H .sl t = some l.length := by
  rcases h with ⟨rfl, rfl⟩ | ⟨b, rfl, _, _⟩ <;> rfl
structure StayM (n0 : Nat) (H : Heap) (t : T) (H' : Heap) : Prop where
  len : H.length ≤ H'.length
  get : ∀ b x, H[b]? = some x → (∀ off len n, t ≠ .msl b off len n) → H'[b]? = some x
  ext : ∀ H0 : Heap, H0.length ≤ n0 → Ext H0 H → Ext H0 H'
theorem appM_ok {α : Type} {enc : α → List T} {n n0 : Nat} (hn : ∀ x, (enc x).length = n) {H : Heap} {t : T} {l : List α} {bytes : Nat} (new : List α) (h : Mut enc n n0 H t l) (hn0 : n0 ≤ H.length) (hnew : new ≠ []) (hr : roomOk (l.length + new.length) bytes = true) :
    ∃ t' H', appM H n bytes t (new.map enc) = some (t', H') ∧ Mut enc n n0 H' t' (l ++ new) ∧ StayM n0 H t H' := by
  have hfl : (new.map enc).flatten = msC enc new := by simp [msC, List.flatMap]
  have happ : ∀ l : List α, msC enc l ++ msC enc new = msC enc (l ++ new) := fun l => by simp [msC]
  unfold appM
  cases new with
  | nil => exact absurd rfl hnew
  | cons c new =>
    rcases h with ⟨rfl, rfl⟩ | ⟨b, rfl, hb, hb0⟩
    · simp only [List.map_cons, List.length_cons, List.length_nil, List.length_map, Nat.zero_add] at hr hfl ⊢
      simp only [hr, and_true, if_true]
      refine ⟨_, _, rfl, .inr ⟨H.length, by simp, ?_, hn0⟩, ⟨by simp, fun b x hx _ => by rw [g_app (glt hx)]; exact hx, fun H0 _ h => h.app _⟩⟩
      rw [g_tail rfl, hfl]; rfl
    · have hc : l.length * n = (msC enc l).length := (msC_len hn l).symm
      simp only [List.map_cons, List.length_cons, List.length_map] at hr hfl ⊢
      simp only [hb, hc, hr, and_self, if_true]
      refine ⟨_, _, rfl, .inr ⟨H.length, by simp, ?_, hn0⟩, ⟨by simp, fun b' x hx hne => ?_, fun H0 h0 h => (h.set (Nat.le_trans h0 hb0) _).app _⟩⟩
      · rw [g_tail (by simp), hfl, happ]
      · have hbb : b ≠ b' := fun e => hne 0 l.length n (by rw [e])
        rw [g_app (by rw [List.length_set]; exact glt hx), g_ne hbb]; exact hx
theorem frzE_ms {α : Type} {enc : α → List T} {n : Nat} (hn : ∀ x, (enc x).length = n) (l : List α) : frzE (msC enc l) 0 l.length n = l.map enc := by
  unfold frzE
  refine List.ext_getElem? fun i => ?_
  by_cases hi : i < l.length
  · have := msC_get hn (List.getElem?_eq_getElem hi) 0 n (by omega)
    rw [ldcB_c] at this
    split at this
    · simp only [Option.some.injEq, Nat.add_zero, List.drop_zero] at this
      simp only [List.getElem?_map, List.getElem?_range hi, Option.map_some, Nat.zero_add, this, List.getElem?_eq_getElem hi]
      rw [List.take_of_length_le (by rw [hn]; omega)]
    · cases this
  · rw [List.getElem?_eq_none (by simp; omega), List.getElem?_eq_none (by simp; omega)]
theorem W.frz1 {α : Type} {enc : α → List T} {n : Nat} (hn : ∀ x, (enc x).length = n) {E : Env} {f : Nat} {az : List T} {H : Heap} {l : List α} {Q : Out → Heap → Prop}
    (h : W E (.call f az) H (fun o H' => ∃ b, o = .val (.msl b 0 l.length n) ∧ H'[b]? = some (.cells (msC enc l)) ∧ Q (.val (.sl .arg (l.map enc))) (H'.set b .dead))) : W E (.call f az) H Q := by
  refine .frz _ h fun o H' ⟨b, ho, hb, hq⟩ => ⟨_, b, _, ho, rfl, hb, ?_⟩
  have hc : 0 + l.length * n ≤ (msC enc l).length := by rw [msC_len hn]; omega
  simp only [frzV, Go.Rmp.frz1, hc, and_self, if_true, frzE_ms hn]
  exact hq
end Go.Rmp
end

section
namespace Go.Rmp
set_option maxRecDepth 10000
abbrev o1 (d : Nat) (b : Bo) : O := ⟨some d, .b b, none, []⟩
def insIR (n bytes : Nat) (z : List T) (fr : Nat) : Fn := ⟨95, 3, [.t 6],
  C.seq (.ops [o1 6 (.mov (.c (.sl .nil [])))]) <|
  C.seq (.ops [o1 10 (.mov (.r 0)), o1 11 (.mov (.r 1)), o1 12 (.sll n (.r 10) (some (.r 11)) none none)]) <|
  C.seq (.ops [o1 13 (.mov (.r 2)), o1 14 (.len .sl (.r 13)), o1 7 (.mov (.r 14))]) <|
  C.seq (C.seq (.ops [o1 15 (.mov (.r 7)), o1 16 (.bin .eql (.r 15) (.c (.int .i64 0)))]) <|
  .cond (.r 16)
    (C.seq (.ops [o1 17 (.mov (.r 0)), o1 6 (.mov (.r 17))]) <|
    .ret)
    (.skip)) <|
  C.seq (.ops [o1 18 (.mov (.r 0)), o1 19 (.len .sl (.r 18)), o1 8 (.mov (.r 19))]) <|
  C.seq (C.seq (.ops [o1 20 (.mov (.r 1)), o1 21 (.mov (.r 8)), o1 22 (.bin .eql (.r 20) (.r 21))]) <|
  .cond (.r 22)
    (C.seq (.ops [o1 23 (.mov (.r 0)), o1 24 (.mov (.r 2)), o1 25 (.app n bytes true (.r 23) (.r 24)), o1 6 (.mov (.r 25))]) <|
    .ret)
    (.skip)) <|
  C.seq (C.seq (.ops [o1 26 (.mov (.r 8)), o1 27 (.mov (.r 7)), o1 28 (.bin .add (.r 26) (.r 27)), o1 29 (.mov (.r 0)), o1 30 (.cap (.r 29)), o1 31 (.bin .gtr (.r 28) (.r 30))]) <|
  .cond (.r 31)
    (C.seq (.ops [o1 32 (.mov (.r 0)), o1 33 (.mov (.r 1)), o1 34 (.sll n (.r 32) none (some (.r 33)) none), o1 35 (.mov (.r 8)), o1 36 (.mov (.r 7)), o1 37 (.bin .add (.r 35) (.r 36)), o1 38 (.mov (.r 1)), o1 39 (.bin .sub (.r 37) (.r 38)), o1 40 (.apz n bytes z (.r 34) (.r 39)), o1 9 (.mov (.r 40))]) <|
    C.seq (.ops [o1 41 (.mov (.r 9)), o1 42 (.mov (.r 1)), o1 43 (.sll n (.r 41) (some (.r 42)) none none), o1 44 (.mov (.r 2)), o1 45 (.cpy n (.r 43) (.r 44))]) <|
    C.seq (.ops [o1 46 (.mov (.r 9)), o1 47 (.mov (.r 1)), o1 48 (.mov (.r 7)), o1 49 (.bin .add (.r 47) (.r 48)), o1 50 (.sll n (.r 46) (some (.r 49)) none none), o1 51 (.mov (.r 0)), o1 52 (.mov (.r 1)), o1 53 (.sll n (.r 51) (some (.r 52)) none none), o1 54 (.cpy n (.r 50) (.r 53))]) <|
    C.seq (.ops [o1 55 (.mov (.r 9)), o1 6 (.mov (.r 55))]) <|
    .ret)
    (.skip)) <|
  C.seq (.ops [o1 56 (.mov (.r 0)), o1 57 (.mov (.r 8)), o1 58 (.mov (.r 7)), o1 59 (.bin .add (.r 57) (.r 58)), o1 60 (.sll n (.r 56) none (some (.r 59)) none), o1 0 (.mov (.r 60))]) <|
  C.seq (C.seq (.ops [o1 61 (.mov (.r 2)), o1 62 (.mov (.r 0)), o1 63 (.mov (.r 1)), o1 64 (.mov (.r 7)), o1 65 (.bin .add (.r 63) (.r 64)), o1 66 (.sll n (.r 62) (some (.r 65)) none none), o1 67 (.ovl n (.r 61) (.r 66)), o1 68 (.un .not (.r 67))]) <|
  .cond (.r 68)
    (C.seq (.ops [o1 69 (.mov (.r 0)), o1 70 (.mov (.r 1)), o1 71 (.mov (.r 7)), o1 72 (.bin .add (.r 70) (.r 71)), o1 73 (.sll n (.r 69) (some (.r 72)) none none), o1 74 (.mov (.r 0)), o1 75 (.mov (.r 1)), o1 76 (.sll n (.r 74) (some (.r 75)) none none), o1 77 (.cpy n (.r 73) (.r 76))]) <|
    C.seq (.ops [o1 78 (.mov (.r 0)), o1 79 (.mov (.r 1)), o1 80 (.sll n (.r 78) (some (.r 79)) none none), o1 81 (.mov (.r 2)), o1 82 (.cpy n (.r 80) (.r 81))]) <|
    C.seq (.ops [o1 83 (.mov (.r 0)), o1 6 (.mov (.r 83))]) <|
    .ret)
    (.skip)) <|
  C.seq (.ops [o1 84 (.mov (.r 0)), o1 85 (.mov (.r 8)), o1 86 (.sll n (.r 84) (some (.r 85)) none none), o1 87 (.mov (.r 2)), o1 88 (.cpy n (.r 86) (.r 87))]) <|
  C.seq (.ops [o1 89 (.mov (.r 0)), o1 90 (.mov (.r 1)), o1 91 (.sll n (.r 89) (some (.r 90)) none none), o1 92 (.mov (.r 7)), ⟨some 93, .call fr [(.r 91), (.r 92)], none, []⟩]) <|
  C.seq (.ops [o1 94 (.mov (.r 0)), o1 6 (.mov (.r 94))]) <|
  .ret⟩
section
variable {α : Type} {enc : α → List T} {n : Nat}
theorem elemsK_ms (hn : ∀ x, (enc x).length = n) {H : Heap} {b : Nat} {xs : List α} (hb : H[b]? = some (.cells (msC enc xs))) (j k l c : Nat) (hjk : j + k ≤ xs.length) :
    elemsK H n k (.msl b (j * n) l n) = some (((xs.drop j).take k).map enc) ∧ elemsK H n k (.mslc b (j * n) l n c) = some (((xs.drop j).take k).map enc) := by
  have hm : j * n + k * n ≤ (msC enc xs).length := by rw [msC_len hn, ← Nat.add_mul]; exact Nat.mul_le_mul_right n hjk
  have e : (List.range k).map (fun i => ((msC enc xs).drop (j * n + i * n)).take n) = ((xs.drop j).take k).map enc := by
    have h1 := frzE_ms hn ((xs.drop j).take k)
    have hl : ((xs.drop j).take k).length = k := by simp; omega
    rw [hl] at h1
    rw [← h1]
    unfold frzE
    refine List.map_congr_left fun i hi => ?_
    have hi := List.mem_range.1 hi
    rw [Nat.zero_add, ← msC_take hn, ← msC_drop hn, List.drop_take, List.drop_drop, List.take_take]
    congr 1
    have : i * n + n ≤ k * n := by rw [← Nat.succ_mul]; exact Nat.mul_le_mul_right n hi
    omega
  simp -implicitDefEqProofs only [elemsK, hb, hm, and_self, if_true, e]
theorem cpy_ms (hn : ∀ x, (enc x).length = n) (hn0 : n ≠ 0) {H : Heap} {b : Nat} {xs ys : List α} {y : T} {ly len : Nat} (hb : H[b]? = some (.cells (msC enc xs))) (j c : Nat) (hj : j ≤ xs.length) (hly : lenM y = some ly) (hy : elemsK H n (min ly len) y = some (ys.map enc)) (hyl : ys.length = min ly len) :
    cpyT H n (.msl b (j * n) len n) y = some (.int .i64 (min ly len : Nat), H.set b (.cells (msC enc (xs.take j ++ ys ++ xs.drop (j + ys.length))))) ∧
    cpyT H n (.mslc b (j * n) len n c) y = some (.int .i64 (min ly len : Nat), H.set b (.cells (msC enc (xs.take j ++ ys ++ xs.drop (j + ys.length))))) := by
  have h1 : j * n ≤ (msC enc xs).length := by rw [msC_len hn]; exact Nat.mul_le_mul_right n hj
  have e : (msC enc xs).take (j * n) ++ (ys.map enc).flatten ++ (msC enc xs).drop (j * n + (min ly len) * n) = msC enc (xs.take j ++ ys ++ xs.drop (j + ys.length)) := by
    rw [← hyl, ← Nat.add_mul, msC_take hn, msC_drop hn]
    simp [msC, List.flatMap]
  simp -implicitDefEqProofs only [cpyT, hly, hb, hy, h1, hn0, ne_eq, not_false_eq_true, and_self, if_true, e]
theorem apz_ms (hn : ∀ x, (enc x).length = n) (hn0 : n ≠ 0) {H : Heap} {b bytes : Nat} {xs : List α} (zv : α) (hb : H[b]? = some (.cells (msC enc xs))) (i k c : Nat) (hi : i ≤ xs.length) (hk : 0 < k) (hc : c < i + k) (hr : roomOk (i + k) bytes = true) :
    apzT H n bytes (enc zv) (.mslc b 0 i n c) k = some (.msl H.length 0 (i + k) n, H ++ [.cells (msC enc (xs.take i ++ List.replicate k zv))]) := by
  have h1 := (elemsK_ms hn hb 0 i i c (by omega)).2
  rw [Nat.zero_mul] at h1
  have e : ((xs.take i).map enc).flatten ++ (List.replicate k (enc zv)).flatten = msC enc (xs.take i ++ List.replicate k zv) := by
    rw [msC_rep]; simp [msC, List.flatMap]
  simp -implicitDefEqProofs only [List.drop_zero] at h1
  simp -implicitDefEqProofs only [apzT, h1, hn0, ne_eq, not_false_eq_true, hk, hc, hn, hr, and_self, if_true, e]
theorem elems_one (hn : ∀ x, (enc x).length = n) {H : Heap} {bv : Nat} {v : α} (hv : H[bv]? = some (.cells (enc v))) : elemsOf H n (.msl bv 0 1 n) = some [enc v] := by
  have h1 : 0 + 1 * n ≤ (enc v).length := by rw [hn]; omega
  simp -implicitDefEqProofs only [elemsOf, hv, h1, and_self, if_true]
  have : (List.range 1).map (fun i => ((enc v).drop (0 + i * n)).take n) = [enc v] := by
    simp [List.range_succ, List.take_of_length_le (Nat.le_of_eq (hn v))]
  rw [this]
structure StayI (n0 : Nat) (H : Heap) (t : T) (H' : Heap) : Prop where
  len : H.length ≤ H'.length
  get : ∀ b x, H[b]? = some x → (∀ off len n, t ≠ .msl b off len n) → H'[b]? = some x
  ext : ∀ H0 : Heap, H0.length ≤ n0 → Ext H0 H → Ext H0 H'
def InsQ (enc : α → List T) (n n0 : Nat) (H : Heap) (t : T) (ys : List α) : Out → Heap → Prop := fun o H' => ∃ b', o = .val (.msl b' 0 ys.length n) ∧ H'[b']? = some (.cells (msC enc ys)) ∧ n0 ≤ b' ∧ StayI n0 H t H' ∧ (H.length ≤ b' ∨ ∃ off len n, t = .msl b' off len n)
theorem appM_fr {H H' : Heap} {n bytes b off len m : Nat} {x : T} {new : List (List T)} (h : appM H n bytes x new = some (.msl b off len m, H')) (hn : new ≠ []) : H.length ≤ b := by
  unfold appM at h
  split at h
  · exact absurd rfl hn
  · split at h
    · split at h
      · simp at h; omega
      · cases h
    · split at h
      · simp at h; omega
      · cases h
    · split at h
      · split at h
        · simp at h; omega
        · cases h
      · cases h
    · cases h
theorem ins_nil {E : Env} {f bytes fr : Nat} (hn : ∀ x, (enc x).length = n) (hn0 : n ≠ 0) (zv : α) (hf : E.fn f = some (insIR n bytes (enc zv) fr)) (n0 bv : Nat) (v : α) (H : Heap) (hH : n0 ≤ H.length) (hv : H[bv]? = some (.cells (enc v))) (hr : roomOk 1 bytes = true) :
    W E (.call f [.sl .nil [], .int .i64 0, .msl bv 0 1 n]) H (InsQ enc n n0 H (.sl .nil []) [v]) := by
  refine W.fnI hf rfl rfl ?_
  have h1 := elems_one hn hv
  obtain ⟨t', H', ha, hm, hst⟩ := appM_ok (enc := enc) hn (bytes := bytes) [v] (mut_nil enc n n0 H) hH (by simp) (by simpa using hr)
  simp -implicitDefEqProofs only [List.map_cons, List.map_nil] at ha
  have hfr := fun b' ml (e : t' = T.msl b' 0 ml n) => appM_fr (e ▸ ha) (by simp)
  have n0' : natOf (.int .i64 0) = some 0 := rfl
  have z0 : ((0 : Nat) : Int) = 0 := rfl
  simp -implicitDefEqProofs only [insIR, o1, reduceIte, q1, q2, q3, q4, q5, q6, q7, q8, q9, S1, z0, n0', Nat.le_refl, and_self, SK.cut, h1, fgt, ha]
  rcases hm with ⟨h0, _⟩ | ⟨b', rfl, hb', hbn⟩
  · simp at h0
  · exact ⟨b', rfl, hb', hbn, ⟨hst.len, hst.get, hst.ext⟩, .inl (hfr _ _ rfl)⟩
theorem ins_msl {E : Env} {f bytes fr : Nat} (hn : ∀ x, (enc x).length = n) (hn0 : n ≠ 0) (zv : α) (hf : E.fn f = some (insIR n bytes (enc zv) fr)) (n0 bv b i : Nat) (v : α) (xs : List α) (H : Heap) (hH : n0 ≤ H.length) (hv : H[bv]? = some (.cells (enc v))) (hb : H[b]? = some (.cells (msC enc xs))) (hbn : n0 ≤ b) (hne : bv ≠ b)
    (hi : i ≤ xs.length) (hl : xs.length < 4611686018427387903) (hr : roomOk (xs.length + 1) bytes = true) :
    W E (.call f [.msl b 0 xs.length n, .int .i64 i, .msl bv 0 1 n]) H (InsQ enc n n0 H (.msl b 0 xs.length n) (xs.take i ++ v :: xs.drop i)) := by
  have hyl : (xs.take i ++ v :: xs.drop i).length = xs.length + 1 := by simp; omega
  refine W.revl (b := b) (off := 0) (len := xs.length) (n := n) 0 (fun o H' => ∃ t b', o = .val t ∧ fgt t = .msl b' 0 (xs.length + 1) n ∧ H'[b']? = some (.cells (msC enc (xs.take i ++ v :: xs.drop i))) ∧ n0 ≤ b' ∧ StayI n0 H (.msl b 0 xs.length n) H' ∧ (H.length ≤ b' ∨ ∃ off len m, (.msl b 0 xs.length n : T) = .msl b' off len m)) rfl (fun c hc => ?_) ?_
  rotate_left
  · rintro t H' ⟨t', b', ht, hfg, h1, h2, h3⟩
    cases ht
    exact ⟨b', by rw [hfg, hyl], h1, h2, h3⟩
  refine W.fnI hf rfl rfl ?_
  have h1 := elems_one hn hv
  have w1 : IntKind.i64.wrap ((xs.length : Int) + ((1 : Nat) : Int)) = ((xs.length + 1 : Nat) : Int) := by rw [wrap64 (by omega)]; omega
  have w2 : IntKind.i64.wrap ((i : Int) + ((1 : Nat) : Int)) = ((i + 1 : Nat) : Int) := by rw [wrap64 (by omega)]; omega
  have lb := glt hb
  have lv := glt hv
  by_cases hil : i = xs.length
  · subst hil
    obtain ⟨t', H', ha, hm, hst⟩ := appM_ok (enc := enc) (n0 := n0) (t := .msl b 0 xs.length n) hn (bytes := bytes) [v] (.inr ⟨b, rfl, hb, hbn⟩) hH (by simp) (by simpa using hr)
    simp -implicitDefEqProofs only [List.map_cons, List.map_nil] at ha
    have hfr := fun b' ml (e : t' = T.msl b' 0 ml n) => appM_fr (e ▸ ha) (by simp)
    simp -implicitDefEqProofs only [insIR, o1, reduceIte, q1, q2, q3, q4, q5, q6, q7, q8, q9, S1, natOf_nat, Nat.le_refl, hc, and_self, h1, fgt, ha]
    rcases hm with ⟨h0, _⟩ | ⟨b', rfl, hb', hbn'⟩
    · simp at h0
    · refine ⟨_, b', rfl, by simp [fgt], ?_, hbn', ⟨hst.len, hst.get, hst.ext⟩, .inl (hfr _ _ rfl)⟩
      rw [hb']; simp
  · have hlt : i < xs.length := by omega
    have hne' : ¬ ((i : Int) = (xs.length : Int)) := by omega
    have ic : (i < c ∨ i = 0) = True := by simp; omega
    have i1 : (i + 1 < c ∨ i + 1 = 0) = (i + 1 < c) := by simp
    have mi : min 1 (xs.length + 1 - i) = 1 := by omega
    have hevk := elemsK_ms hn (xs := [v]) (b := bv) (H := H)
    by_cases hcap : c < xs.length + 1
    · have hcl : c = xs.length := by omega
      subst hcl
      have w3 : IntKind.i64.wrap (((xs.length + 1 : Nat) : Int) - (i : Int)) = ((xs.length + 1 - i : Nat) : Int) := by rw [wrap64 (by omega)]; omega
      have hsum : i + (xs.length + 1 - i) = xs.length + 1 := by omega
      have ha := apz_ms (bytes := bytes) hn hn0 zv hb i (xs.length + 1 - i) xs.length hi (by omega) (by omega) (by rw [hsum]; exact hr)
      rw [hsum] at ha
      have c0 : (0 < xs.length ∨ True) = True := by simp
      have e1 : ¬ (i = xs.length + 1) := by omega
      have e2 : ¬ (i + 1 = xs.length + 1) := by omega
      have hle : i ≤ xs.length + 1 := by omega
      have hle2 : i + 1 ≤ xs.length + 1 := by omega
      have hbt : (H ++ [B.cells (msC enc (xs.take i ++ List.replicate (xs.length + 1 - i) zv))])[H.length]? = some (.cells (msC enc (xs.take i ++ List.replicate (xs.length + 1 - i) zv))) := g_tail rfl
      have hvt : (H ++ [B.cells (msC enc (xs.take i ++ List.replicate (xs.length + 1 - i) zv))])[bv]? = some (.cells (msC enc [v])) := by rw [g_app lv, hv]; simp [msC]
      have hk1 := (elemsK_ms hn hvt 0 1 1 0 (by simp)).1
      simp -implicitDefEqProofs only [Nat.zero_mul, List.drop_zero] at hk1
      have hcp1 := (cpy_ms hn hn0 (ys := [v]) (y := .msl bv 0 1 n) (ly := 1) (len := xs.length + 1 - i) hbt i 0 (by simp; omega) rfl (by rw [mi]; simpa using hk1) (by simp; omega)).1
      rw [mi] at hcp1
      have hx2 : (xs.take i ++ List.replicate (xs.length + 1 - i) zv).take i ++ [v] ++ (xs.take i ++ List.replicate (xs.length + 1 - i) zv).drop (i + [v].length) = xs.take i ++ v :: List.replicate (xs.length - i) zv := by
        have t1 : (xs.take i).length = i := by simp; omega
        have t2 : i + 1 - i = 1 := by omega
        have t3 : xs.length + 1 - i - 1 = xs.length - i := by omega
        rw [List.take_append_of_le_length (by omega), List.take_of_length_le (by omega), List.drop_append, List.drop_eq_nil_of_le (by simp; omega), t1]
        simp [t2, t3]
      rw [hx2, hset_tail] at hcp1
      have hbt2 : (H ++ [B.cells (msC enc (xs.take i ++ v :: List.replicate (xs.length - i) zv))])[H.length]? = some (.cells (msC enc (xs.take i ++ v :: List.replicate (xs.length - i) zv))) := g_tail rfl
      have hb2 : (H ++ [B.cells (msC enc (xs.take i ++ v :: List.replicate (xs.length - i) zv))])[b]? = some (.cells (msC enc xs)) := by rw [g_app lb, hb]
      have hk2 := (elemsK_ms hn hb2 i (xs.length - i) (xs.length - i) (xs.length - i) (by omega)).2
      have hdl : ((xs.drop i).take (xs.length - i)) = xs.drop i := List.take_of_length_le (by simp)
      rw [hdl] at hk2
      have mi2 : min (xs.length - i) (xs.length + 1 - (i + 1)) = xs.length - i := by omega
      have hcp2 := (cpy_ms hn hn0 (ys := xs.drop i) (y := .mslc b (i * n) (xs.length - i) n (xs.length - i)) (ly := xs.length - i) (len := xs.length + 1 - (i + 1)) hbt2 (i + 1) 0 (by simp; omega) rfl (by rw [mi2]; exact hk2) (by simp)).1
      have hx3 : (xs.take i ++ v :: List.replicate (xs.length - i) zv).take (i + 1) ++ xs.drop i ++ (xs.take i ++ v :: List.replicate (xs.length - i) zv).drop (i + 1 + (xs.drop i).length) = xs.take i ++ v :: xs.drop i := by
        have t1 : (xs.take i).length = i := by simp; omega
        have t2 : i + 1 - i = 1 := by omega
        have d1 : (xs.take i ++ v :: List.replicate (xs.length - i) zv).drop (i + 1 + (xs.drop i).length) = [] := List.drop_eq_nil_of_le (by rw [List.length_append, t1]; simp; omega)
        have d2 : (xs.take i).take (i + 1) = xs.take i := List.take_of_length_le (by omega)
        rw [d1, List.take_append, d2, t1, t2]
        simp
      rw [hx3, hset_tail] at hcp2
      simp -implicitDefEqProofs only [insIR, o1, reduceIte, q1, q2, q3, q4, q5, q6, q7, q8, q9, S1, natOf_nat, Nat.le_refl, hc, and_self, hi, ic, hne', hil, w1, w2, w3, hcap, Nat.zero_le, Nat.zero_mul, Nat.sub_zero, c0, ha, hle, hle2, e1, e2, hcp1, hcp2, or_true, if_true]
      exact ⟨_, H.length, rfl, rfl, g_tail rfl, hH, ⟨by simp, fun b' x hx _ => by rw [g_app (glt hx)]; exact hx, fun H0 _ h => h.app _⟩, .inl (Nat.le_refl _)⟩
    · have hcap' : xs.length + 1 ≤ c := by omega
      have hcap2 : ¬ c < xs.length + 1 := hcap
      have e1 : ¬ (i = xs.length + 1) := by omega
      have hle : i ≤ xs.length + 1 := by omega
      have hle2 : i + 1 ≤ xs.length + 1 := by omega
      have c0 : (0 < c ∨ True) = True := by simp
      have c1 : i + 1 < c := by omega
      have c2 : i < c := by omega
      have hlen0 : 0 < (msC enc xs).length := by rw [msC_len hn]; exact Nat.mul_pos (by omega) (by omega)
      have hov : ovlT H n (.msl bv 0 1 n) (.mslc b ((i + 1) * n) (xs.length + 1 - (i + 1)) n (c - (i + 1))) = some (.bool false, H) := by
        simp -implicitDefEqProofs only [ovlT, hv, hb, ne_eq, hne, not_false_eq_true, hlen0, and_self, if_true]
      have hk2 := (elemsK_ms hn hb i (xs.length - i) (xs.length + 1 - i) (c - i) (by omega)).2
      have hdl : ((xs.drop i).take (xs.length - i)) = xs.drop i := List.take_of_length_le (by simp)
      rw [hdl] at hk2
      have mi2 : min (xs.length + 1 - i) (xs.length + 1 - (i + 1)) = xs.length - i := by omega
      have hcp1 := (cpy_ms hn hn0 (ys := xs.drop i) (y := .mslc b (i * n) (xs.length + 1 - i) n (c - i)) (ly := xs.length + 1 - i) (len := xs.length + 1 - (i + 1)) hb (i + 1) (c - (i + 1)) (by omega) rfl (by rw [mi2]; exact hk2) (by rw [mi2]; simp)).2
      have hx1 : xs.take (i + 1) ++ xs.drop i ++ xs.drop (i + 1 + (xs.drop i).length) = xs.take (i + 1) ++ xs.drop i := by
        have d1 : xs.drop (i + 1 + (xs.drop i).length) = [] := List.drop_eq_nil_of_le (by rw [List.length_drop]; omega)
        rw [d1, List.append_nil]
      rw [hx1] at hcp1
      have hb2 : (H.set b (.cells (msC enc (xs.take (i + 1) ++ xs.drop i))))[b]? = some (.cells (msC enc (xs.take (i + 1) ++ xs.drop i))) := g_eq lb
      have hvt : (H.set b (.cells (msC enc (xs.take (i + 1) ++ xs.drop i))))[bv]? = some (.cells (msC enc [v])) := by rw [g_ne (Ne.symm hne), hv]; simp [msC]
      have hk1 := (elemsK_ms hn hvt 0 1 1 0 (by simp)).1
      simp -implicitDefEqProofs only [Nat.zero_mul, List.drop_zero] at hk1
      have hcp2 := (cpy_ms hn hn0 (ys := [v]) (y := .msl bv 0 1 n) (ly := 1) (len := xs.length + 1 - i) hb2 i (c - i) (by simp; omega) rfl (by rw [mi]; simpa using hk1) (by simp; omega)).2
      rw [mi] at hcp2
      have hx2 : (xs.take (i + 1) ++ xs.drop i).take i ++ [v] ++ (xs.take (i + 1) ++ xs.drop i).drop (i + [v].length) = xs.take i ++ v :: xs.drop i := by
        have t1 : (xs.take (i + 1)).length = i + 1 := by simp; omega
        rw [List.take_append_of_le_length (by omega), List.take_take, List.drop_append, List.drop_eq_nil_of_le (by simp; omega), t1]
        have t2 : min i (i + 1) = i := by omega
        simp [t2]
      rw [hx2, List.set_set] at hcp2
      simp -implicitDefEqProofs only [insIR, o1, reduceIte, q1, q2, q3, q4, q5, q6, q7, q8, q9, S1, natOf_nat, Nat.le_refl, hc, and_self, hi, ic, hne', hil, w1, w2, hcap', hcap2, Nat.zero_le, Nat.zero_mul, Nat.sub_zero, c0, c1, c2, true_or, hov, hle, hle2, e1, hcp1, hcp2, or_true, if_true]
      refine ⟨_, b, rfl, rfl, g_eq lb, hbn, ⟨by simp, fun b' x hx hne2 => ?_, fun H0 h0 h => h.set (Nat.le_trans h0 hbn) _⟩, .inr ⟨_, _, _, rfl⟩⟩
      have : b ≠ b' := fun e => hne2 0 xs.length n (by rw [e])
      rw [g_ne this]; exact hx
end
end Go.Rmp
end

section
namespace Go.Rmp
def wro : List O → List Nat
  | [] => []
  | o :: l => match o.d with
    | some d => d :: wro l
    | none => wro l
def wr : C → List Nat
  | .skip => []
  | .ops l => wro l
  | .seq a b => wr a ++ wr b
  | .cond _ a b => wr a ++ wr b
  | .block _ a => wr a
  | .loop a => wr a
  | .exit _ => []
  | .ret => []
  | .rangeF n _ _ _ _ => [n]
def wrJ : J → List Nat
  | .code c _ => wr c
  | .ops l _ => wro l
  | .call _ _ => []
def regJ : J → Regs
  | .code _ R => R
  | .ops _ R => R
  | .call _ _ => fun _ => undefT
def Kp (j : J) (o : Out) : Prop := match j with
  | .call _ _ => True
  | j => ∀ e R', o = .ex e R' → ∀ t, t ∉ wrJ j → R' t = regJ j t
theorem updo_nx {R : Regs} {d : Option Nat} {v : T} {t : Nat} (h : ∀ x, d = some x → t ≠ x) : updo R d v t = R t := by
  cases d with
  | none => rfl
  | some x => simp [updo, upd, h x rfl]
theorem wro_cons {o : O} {l : List O} {t : Nat} (h : t ∉ wro (o :: l)) : (∀ x, o.d = some x → t ≠ x) ∧ t ∉ wro l := by
  unfold wro at h
  cases e : o.d with
  | none => rw [e] at h; exact ⟨fun x hx => (by cases hx), h⟩
  | some d => rw [e] at h; simp only [List.mem_cons, not_or] at h; exact ⟨fun x hx => (by cases hx; exact h.1), h.2⟩
theorem kp_ops {o : O} {l : List O} {R : Regs} {v : T} {x : Out} (h : Kp (.ops l (updo R o.d v)) x) : Kp (.ops (o :: l) R) x := fun e R' he t ht => by
  obtain ⟨h1, h2⟩ := wro_cons ht
  rw [h e R' he t h2]
  exact updo_nx h1
theorem kp_c {c : C} {R : Regs} {e : Ex} {R' : Regs} (h : ∀ t, t ∉ wr c → R' t = R t) : Kp (.code c R) (.ex e R') := fun e' R2 he t ht => by
  injection he with h1 h2
  rw [← h2]; exact h t ht
theorem kp_o {l : List O} {R : Regs} {e : Ex} {R' : Regs} (h : ∀ t, t ∉ wro l → R' t = R t) : Kp (.ops l R) (.ex e R') := fun e' R2 he t ht => by
  injection he with h1 h2
  rw [← h2]; exact h t ht
theorem W.keep {E : Env} {j : J} {H : Heap} {Q : Out → Heap → Prop} (h : W E j H Q) : W E j H (fun o H' => Q o H' ∧ Kp j o) := by
  induction h with
  | skip h => exact .skip ⟨h, kp_c fun _ _ => rfl⟩
  | exit h => exact .exit ⟨h, kp_c fun _ _ => rfl⟩
  | ret h => exact .ret ⟨h, kp_c fun _ _ => rfl⟩
  | reg _ ih => exact .reg (ih.use fun o H' h => ⟨h.1, h.2⟩)
  | @seq a b R H Q M h1 h2 h3 ih1 ih2 =>
    refine .seq _ ih1 (fun R' H' hm => (ih2 R' H' hm.1).use fun o H2 h => ⟨h.1, fun e R2 he t ht => ?_⟩) (fun o H' hm hn => ⟨h3 o H' hm.1 hn, fun e R2 he t ht => ?_⟩)
    · have ht' : t ∉ wr a ∧ t ∉ wr b := by simpa [wrJ, wr] using ht
      rw [h.2 e R2 he t ht'.2]; exact hm.2 _ _ rfl t ht'.1
    · have ht' : t ∉ wr a ∧ t ∉ wr b := by simpa [wrJ, wr] using ht
      exact hm.2 e R2 he t ht'.1
  | @cond x a b R H Q t hx h ih =>
    refine .cond t hx (ih.use fun o H' h => ⟨h.1, fun e R2 he t' ht => ?_⟩)
    have ht' : t' ∉ wr a ∧ t' ∉ wr b := by simpa [wrJ, wr] using ht
    refine h.2 e R2 he t' ?_
    cases t
    · exact ht'.2
    · exact ht'.1
  | block M h1 h2 h3 ih =>
    exact .block _ ih (fun R' H' hm => ⟨h2 R' H' hm.1, kp_c fun t ht => hm.2 _ _ rfl t ht⟩) (fun o H' hm hn => ⟨h3 o H' hm.1 hn, fun e R2 he t ht => hm.2 e R2 he t ht⟩)
  | loop M h1 h2 h3 ih1 ih2 =>
    refine .loop _ ih1 (fun R' H' hm => (ih2 R' H' hm.1).use fun o H2 h => ⟨h.1, fun e R2 he t ht => ?_⟩) (fun o H' hm hn => ⟨h3 o H' hm.1 hn, fun e R2 he t ht => hm.2 e R2 he t ht⟩)
    rw [h.2 e R2 he t ht]; exact hm.2 _ _ rfl t ht
  | nil h => exact .nil ⟨h, kp_o fun _ _ => rfl⟩
  | no hg _ ih => exact .no hg (ih.use fun o H' h => ⟨h.1, kp_ops h.2⟩)
  | op hg he hs _ ih => exact .op hg he hs (ih.use fun o H' h => ⟨h.1, kp_ops (o := ⟨_, .b _, _, _⟩) h.2⟩)
  | call M hg h1 hs _ _ ih2 => exact .call M hg h1 hs (fun v H' hm => (ih2 v H' hm).use fun o H' h => ⟨h.1, kp_ops (o := ⟨_, .call _ _, _, _⟩) h.2⟩)
  | callv M hg hf h1 hs _ _ ih2 => exact .callv M hg hf h1 hs (fun v H' hm => (ih2 v H' hm).use fun o H' h => ⟨h.1, kp_ops (o := ⟨_, .callv _ _, _, _⟩) h.2⟩)
  | yld M1 M hg hf hb hn h1 h1' h2 h2' hs3 _ hs4 _ _ _ ih3 ih4 => exact .yld M1 M hg hf hb hn h1 h1' h2 h2' hs3 (fun R' H' hm => (ih3 R' H' hm).use fun o H' h => ⟨h.1, kp_ops (o := ⟨_, .callv _ _, _, _⟩) h.2⟩) hs4 (fun e R' H' hm he => (ih4 e R' H' hm he).use fun o H' h => ⟨h.1, kp_ops (o := ⟨_, .callv _ _, _, _⟩) h.2⟩)
  | nils hs h hx hy hc ih => exact .nils hs (fun b => (ih b).use fun o H' h => ⟨h.1, kp_ops (o := ⟨_, .b _, _, _⟩) h.2⟩) hx hy hc
  | @rangeF n x ps asg body R H Q f cs M hx h1 h2 _ =>
    refine .rangeF M hx h1 (fun v H' hm => let ⟨st, pe, a, b, c, d⟩ := h2 v H' hm; ⟨st, pe, a, b, c, d, kp_c fun t ht => ?_⟩)
    have ht : t ≠ n := by simpa [wrJ, wr] using ht
    simp [upd, ht, regJ]
  | fnr M hf hn h1 h2 _ => exact .fnr M hf hn h1 (fun o H' hm => let ⟨R', bs, a, b, c, d, v, e, f⟩ := h2 o H' hm; ⟨R', bs, a, b, c, d, v, e, f, trivial⟩)
  | fn M hf hr hn h1 h2 _ => exact .fn M hf hr hn h1 (fun o H' hm => let ⟨R', a, v, b, c⟩ := h2 o H' hm; ⟨R', a, v, b, c, trivial⟩)
  | revl i M hi h1 h2 _ => exact .revl i M hi h1 (fun v H' hm => ⟨h2 v H' hm, trivial⟩)
  | frz M h1 h2 _ => exact .frz M h1 (fun o H' hm => let ⟨v, b, cs, a, c, d, e⟩ := h2 o H' hm; ⟨v, b, cs, a, c, d, e, trivial⟩)
  | nxt hg hx hb hs _ ih => exact .nxt hg hx hb hs fun t H' hm => (ih t H' hm).use fun o H' h => ⟨h.1, kp_ops (o := ⟨_, .b _, _, _⟩) h.2⟩
  | shr M h1 h2 _ => exact .shr M h1 (fun o H' hm => let ⟨v, b, cs, k, a, c, d, e⟩ := h2 o H' hm; ⟨v, b, cs, k, a, c, d, e, trivial⟩)
  | prim h => exact .prim (E.mono _ _ _ _ _ h fun t H' hm => ⟨hm, trivial⟩)
def mkR : List (Nat × T) → Regs → Regs
  | [], R => R
  | (t, v) :: l, R => upd (mkR l R) t v
theorem mkR_nil (R : Regs) : mkR [] R = R := rfl
theorem mkR_cons (t : Nat) (v : T) (l : List (Nat × T)) (R : Regs) : mkR ((t, v) :: l) R = upd (mkR l R) t v := rfl
def agree : List (Nat × T) → Regs → Prop
  | [], _ => True
  | (t, v) :: l, R => R t = v ∧ agree l R
def okV (vs : List (Nat × T)) (w : List Nat) : Bool := vs.all fun p => !w.elem p.1
theorem upd_id {R : Regs} {t : Nat} {v : T} (h : R t = v) : upd R t v = R := by
  funext x; by_cases e : x = t
  · subst e; simp [upd, h]
  · simp [upd, e]
theorem mkR_agree : ∀ (vs : List (Nat × T)) (R : Regs), agree vs R → mkR vs R = R
  | [], _, _ => rfl
  | (t, v) :: l, R, h => by rw [mkR_cons, mkR_agree l R h.2, upd_id h.1]
theorem agree_of : ∀ (vs : List (Nat × T)) (R R' : Regs), agree vs R → (∀ p ∈ vs, R' p.1 = R p.1) → agree vs R'
  | [], _, _, _, _ => trivial
  | (t, v) :: l, R, R', h, k => ⟨(k (t, v) List.mem_cons_self).trans h.1, agree_of l R R' h.2 fun p hp => k p (List.mem_cons_of_mem _ hp)⟩
theorem okV_mem {vs : List (Nat × T)} {w : List Nat} (h : okV vs w = true) : ∀ p ∈ vs, p.1 ∉ w := fun p hp hw => by
  have := (List.all_eq_true.1 h) p hp
  simp [hw] at this
theorem W.loopV {E : Env} {α : Type} {a : C} {R : Regs} {H : Heap} {Q : Out → Heap → Prop} (vs : List (Nat × T)) (I : α → Regs → Heap → Prop) (μ : α → Nat) (x : α)
    (h0 : I x R H) (step : ∀ x R H, I x R H → wpC E a (mkR vs R) H (thenQ (fun R' H' => ∃ y, μ y < μ x ∧ I y R' H') Q))
    (hv : agree vs R := by repeat' (first | exact trivial | refine And.intro rfl ?_)) (hw : okV vs (wr a) = true := by rfl) : W E (.code (.loop a) R) H Q := by
  have key : ∀ (n : Nat) (x : α) (R : Regs) (H : Heap), μ x = n → I x R H → agree vs R → W E (.code (.loop a) R) H Q := by
    intro n
    induction n using Nat.strongRecOn with
    | _ n ih =>
      intro x R H hn hI hag
      have hs := step x R H hI
      rw [mkR_agree vs R hag] at hs
      refine .loop _ (wpC_ok a R H _ hs).keep (fun R' H' hm => ?_) (fun o H' hm hno => ?_)
      · obtain ⟨⟨y, hy, hI'⟩, hk⟩ := hm
        exact ih (μ y) (hn ▸ hy) y R' H' rfl hI' (agree_of vs R R' hag fun p hp => hk _ _ rfl p.1 (okV_mem hw p hp))
      · cases o with
        | ex e R' => cases e with
          | normal => exact absurd rfl (hno R')
          | exit id => exact hm.1
          | ret => exact hm.1
        | val v => exact hm.1
  exact key _ x R H rfl h0 hv
theorem W.loopX {E : Env} {α : Type} {a : C} {R : Regs} {H : Heap} {Q : Out → Heap → Prop} (id : Nat) (vs : List (Nat × T)) (I : α → Regs → Heap → Prop) (μ : α → Nat) (x : α) (P : Regs → Heap → Prop)
    (h0 : I x R H) (step : ∀ x R H, I x R H → wpC E a (mkR vs R) H (thenQ (fun R' H' => ∃ y, μ y < μ x ∧ I y R' H') (exitQ id P Q))) (rest : ∀ R H, P R H → Q (.ex (.exit id) (mkR vs R)) H)
    (hv : agree vs R := by repeat' (first | exact trivial | refine And.intro rfl ?_)) (hw : okV vs (wr a) = true := by rfl) : W E (.code (.loop a) R) H Q := by
  have h := (W.loopV (Q := exitQ id P Q) vs I μ x h0 step hv hw).keep
  refine h.use fun o H' hm => ?_
  cases o with
  | ex e R' => cases e with
    | exit i =>
      obtain ⟨h1, hk⟩ := hm
      simp only [exitQ] at h1
      split at h1
      · rename_i e; subst e
        have hag : agree vs R' := agree_of vs R R' hv fun p hp => hk _ _ rfl p.1 (okV_mem hw p hp)
        have := rest _ _ h1
        rwa [mkR_agree vs R' hag] at this
      · exact h1
    | normal => exact hm.1
    | ret => exact hm.1
  | val v => exact hm.1
theorem wpB_keep {E : Env} {K : Regs → Heap → Prop} : ∀ (l : List O) (R : Regs) (H : Heap), wpB E l R H K → wpB E l R H (fun R' H' => K R' H' ∧ ∀ t, t ∉ wro l → R' t = R t)
  | [], R, H, h => ⟨h, fun _ _ => rfl⟩
  | ⟨d, .b b, g, s⟩ :: l, R, H, h => by
    have tr : ∀ v H', wpB E l (updo R d v) H' K → wpB E l (updo R d v) H' (fun R' H' => K R' H' ∧ ∀ t, t ∉ wro (⟨d, .b b, g, s⟩ :: l) → R' t = R t) := fun v H' h' =>
      wpB_mono (fun R' H' hk => ⟨hk.1, fun t ht => by obtain ⟨h1, h2⟩ := wro_cons ht; rw [hk.2 t h2]; exact updo_nx h1⟩) l _ _ (wpB_keep l _ _ h')
    simp only [wpB] at h ⊢
    split at h
    · exact tr _ _ h
    · split at h
      · exact ⟨h.1, tr _ _ h.2⟩
      · rcases h with h | ⟨x, bb, bi, es, ix, cur, e, hx, hb, h⟩
        · exact .inl ⟨h.1, fun t => tr _ _ (h.2 t)⟩
        · exact .inr ⟨x, bb, bi, es, ix, cur, e, hx, hb, fun t H' hm => ⟨(h t H' hm).1, tr _ _ (h t H' hm).2⟩⟩
  | ⟨d, .call f az, g, s⟩ :: l, R, H, h => by
    have tr : ∀ v H', wpB E l (updo R d v) H' K → wpB E l (updo R d v) H' (fun R' H' => K R' H' ∧ ∀ t, t ∉ wro (⟨d, .call f az, g, s⟩ :: l) → R' t = R t) := fun v H' h' =>
      wpB_mono (fun R' H' hk => ⟨hk.1, fun t ht => by obtain ⟨h1, h2⟩ := wro_cons ht; rw [hk.2 t h2]; exact updo_nx h1⟩) l _ _ (wpB_keep l _ _ h')
    simp only [wpB] at h ⊢
    split at h
    · exact tr _ _ h
    · obtain ⟨M, h1, h2⟩ := h
      exact ⟨M, h1, fun v H' hm => ⟨(h2 v H' hm).1, tr _ _ (h2 v H' hm).2⟩⟩
  | ⟨d, .callv x az, g, s⟩ :: l, R, H, h => by
    have tr : ∀ v H', wpB E l (updo R d v) H' K → wpB E l (updo R d v) H' (fun R' H' => K R' H' ∧ ∀ t, t ∉ wro (⟨d, .callv x az, g, s⟩ :: l) → R' t = R t) := fun v H' h' =>
      wpB_mono (fun R' H' hk => ⟨hk.1, fun t ht => by obtain ⟨h1, h2⟩ := wro_cons ht; rw [hk.2 t h2]; exact updo_nx h1⟩) l _ _ (wpB_keep l _ _ h')
    simp only [wpB] at h ⊢
    split at h
    · exact tr _ _ h
    · rcases h with ⟨f, cs, M, hf, h1, h2⟩ | ⟨b, n, R0, ps, asg, body, M1, M, h⟩
      · exact .inl ⟨f, cs, M, hf, h1, fun v H' hm => ⟨(h2 v H' hm).1, tr _ _ (h2 v H' hm).2⟩⟩
      · exact .inr ⟨b, n, R0, ps, asg, body, M1, M, ⟨h.hf, h.hb, h.hn, h.h1, h.h1', h.h2, h.h2', fun R' H' hm => ⟨(h.h3 R' H' hm).1, tr _ _ (h.h3 R' H' hm).2⟩, fun e R' H' hm he => ⟨(h.h4 e R' H' hm he).1, tr _ _ (h.h4 e R' H' hm he).2⟩⟩⟩
theorem wpC_keep {E : Env} : ∀ (c : C) (R : Regs) (H : Heap) (Q : Out → Heap → Prop), wpC E c R H Q → wpC E c R H (fun o H' => Q o H' ∧ ∀ e R', o = .ex e R' → ∀ t, t ∉ wr c → R' t = R t)
  | .skip, R, H, Q, h => ⟨h, fun e R' he t _ => by cases he; rfl⟩
  | .ops l, R, H, Q, h => wpB_mono (fun R' H' hk => ⟨hk.1, fun e R2 he t ht => by cases he; exact hk.2 t ht⟩) l R H (wpB_keep l R H h)
  | .seq a b, R, H, Q, h => wpC_mono a R H (fun o H' hk => by
      obtain ⟨h1, h2⟩ := hk
      have fin : (∀ R', o ≠ .ex .normal R') → Q o H' → Q o H' ∧ ∀ e R', o = .ex e R' → ∀ t, t ∉ wr (.seq a b) → R' t = R t := fun _ hq => ⟨hq, fun e R' he t ht => h2 e R' he t fun hh => ht (List.mem_append_left _ hh)⟩
      cases o with
      | ex e R' => cases e with
        | normal =>
          refine wpC_mono b R' H' (fun o H2 hk2 => ⟨hk2.1, fun e R2 he t ht => ?_⟩) (wpC_keep b R' H' Q h1)
          rw [hk2.2 e R2 he t fun hh => ht (List.mem_append_right _ hh)]
          exact h2 _ _ rfl t fun hh => ht (List.mem_append_left _ hh)
        | exit id => exact fin (fun _ hh => by cases hh) h1
        | ret => exact fin (fun _ hh => by cases hh) h1
      | val v => exact fin (fun _ hh => by cases hh) h1) (wpC_keep a R H _ h)
  | .cond x a b, R, H, Q, h => by
    simp only [wpC] at h ⊢
    split at h
    · exact wpC_mono a R H (fun o H' hk => ⟨hk.1, fun e R' he t ht => hk.2 e R' he t fun hh => ht (List.mem_append_left _ hh)⟩) (wpC_keep a R H Q h)
    · exact wpC_mono b R H (fun o H' hk => ⟨hk.1, fun e R' he t ht => hk.2 e R' he t fun hh => ht (List.mem_append_right _ hh)⟩) (wpC_keep b R H Q h)
    · exact h.elim
  | .block id a, R, H, Q, h => wpC_mono a R H (fun o H' hk => by
      obtain ⟨h1, h2⟩ := hk
      cases o with
      | ex e R' => cases e with
        | normal => exact ⟨h1, fun e R2 he t ht => by cases he; exact h2 _ _ rfl t ht⟩
        | exit i =>
          simp only [blockQ] at h1 ⊢
          split at h1
          · rename_i e; simp only [e, if_true]; exact ⟨h1, fun e R2 he t ht => by cases he; exact h2 _ _ rfl t ht⟩
          · rename_i e; simp only [e, if_false]; exact ⟨h1, fun e R2 he t ht => by cases he; exact h2 _ _ rfl t ht⟩
        | ret => exact ⟨h1, fun e R2 he t ht => by cases he; exact h2 _ _ rfl t ht⟩
      | val v => exact ⟨h1, fun e R2 he t ht => by cases he⟩) (wpC_keep a R H _ h)
  | .exit id, R, H, Q, h => ⟨h, fun e R' he t _ => by cases he; rfl⟩
  | .ret, R, H, Q, h => ⟨h, fun e R' he t _ => by cases he; rfl⟩
  | .loop a, R, H, Q, h => W.use (W.keep h) fun o H' hk => ⟨hk.1, hk.2⟩
  | .rangeF n x ps a b, R, H, Q, h => W.use (W.keep h) fun o H' hk => ⟨hk.1, hk.2⟩
end Go.Rmp
end

section
namespace Go.Rmp
def normO (P : Regs → Heap → Prop) : Out → Heap → Prop
  | .ex .normal R, H => P R H
  | _, _ => False
theorem normO_n (P : Regs → Heap → Prop) (R : Regs) (H : Heap) : normO P (.ex .normal R) H = P R H := rfl
theorem condC_cut {E : Env} {a b : C} {t : T} {R : Regs} {H : Heap} {Q : Out → Heap → Prop} (vs : List (Nat × T)) (P : Regs → Heap → Prop) (h1 : condC E R H (normO P) a b t) (h2 : ∀ R' H', P R' H' → Q (.ex .normal (mkR vs R')) H')
    (hv : agree vs R := by repeat' (first | exact trivial | refine And.intro rfl ?_)) (hw : okV vs (wr a ++ wr b) = true := by rfl) : condC E R H Q a b t := by
  have key : ∀ c : C, (∀ x, x ∈ wr c → x ∈ wr a ++ wr b) → wpC E c R H (normO P) → wpC E c R H Q := fun c hc h => by
    refine wpC_mono c R H (fun o H' hk => ?_) (wpC_keep c R H _ h)
    cases o with
    | ex e R' => cases e with
      | normal =>
        have hag : agree vs R' := agree_of vs R R' hv fun p hp => hk.2 _ _ rfl p.1 fun hh => okV_mem hw p hp (hc _ hh)
        have := h2 R' H' hk.1
        rwa [mkR_agree vs R' hag] at this
      | exit id => exact hk.1.elim
      | ret => exact hk.1.elim
    | val v => exact hk.1.elim
  unfold condC at h1 ⊢
  split at h1
  · exact key a (fun x hx => List.mem_append_left _ hx) h1
  · exact key b (fun x hx => List.mem_append_right _ hx) h1
  · exact h1.elim
def tb : T → Option Nat
  | .msl c _ _ _ => some c
  | _ => none
end Go.Rmp
end

section
namespace Go.Rmp
def bitsN (f : Nat → Bool) : Nat → Nat
  | 0 => 0
  | w + 1 => bitsN f w ||| (if f w then 2 ^ w else 0)
theorem bitsN_bit (f : Nat → Bool) (w i : Nat) : (bitsN f w).testBit i = (decide (i < w) && f i) := by
  induction w with
  | zero => simp [bitsN]
  | succ w ih =>
    have e : (if f w then 2 ^ w else 0 : Nat).testBit i = (decide (w = i) && f i) := by
      by_cases h : w = i
      · subst h; cases f w <;> simp [Nat.testBit_two_pow]
      · cases f w <;> simp [Nat.testBit_two_pow, h]
    rw [bitsN, Nat.testBit_or, ih, e]
    by_cases h1 : i < w
    · have : i < w + 1 := by omega
      have h2 : ¬ w = i := by omega
      simp [h1, this, h2]
    · by_cases h2 : w = i
      · subst h2; simp
      · have : ¬ i < w + 1 := by omega
        simp [h1, h2, this]
theorem bitsN_lt (f : Nat → Bool) (w : Nat) : bitsN f w < 2 ^ w := by
  induction w with
  | zero => simp [bitsN]
  | succ w ih =>
    rw [bitsN]
    refine Nat.or_lt_two_pow (Nat.lt_trans ih (Nat.pow_lt_pow_right (by decide) (by omega))) ?_
    split
    · exact Nat.pow_lt_pow_right (by decide) (by omega)
    · exact Nat.two_pow_pos _
theorem bitsN_ext {f g : Nat → Bool} {w : Nat} (h : ∀ i, i < w → f i = g i) : bitsN f w = bitsN g w := by
  refine Nat.eq_of_testBit_eq fun i => ?_
  rw [bitsN_bit, bitsN_bit]
  by_cases hi : i < w
  · rw [h i hi]
  · simp [hi]
theorem bitsN_or {f : Nat → Bool} {w p : Nat} (hp : p < w) : bitsN f w ||| 2 ^ p = bitsN (fun i => f i || decide (i = p)) w := by
  refine Nat.eq_of_testBit_eq fun i => ?_
  rw [Nat.testBit_or, bitsN_bit, bitsN_bit, Nat.testBit_two_pow]
  by_cases h : p = i
  · subst h; simp [hp]
  · have : ¬ i = p := fun e => h e.symm
    simp [h, this]
end Go.Rmp
end
