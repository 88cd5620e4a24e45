/- Part of a proof of a law of this seat: the machine of plain values, its simulation, and the contracts of the functions that the law reaches. Conditions: none beyond the given row. -/
import Derived.Test.YtmgldhlcapjdkaaGreatM3
import Derived.Sort.AssemblyPlain
open Int renaming reduceLT → j2, reduceLE → j3, reduceBEq → j4, reduceBNe → j5, reduceEq → j6
open Nat renaming reduceAdd → j7, reduceLeDiff → j8, reduceLT → j9, reduceEqDiff → y1
set_option linter.unusedSimpArgs false
set_option linter.unusedVariables false
set_option linter.unnecessarySimpa false
set_option maxHeartbeats 4000000
section
namespace Go.Proofs.YtmgldhlcapjdkaaGreat.St
open Go.Rmp Go.Proofs.YtmgldhlcapjdkaaGreat.Ir
set_option maxRecDepth 10000
structure PutV (s s' : Sto) (n : Nat) (l : List (ByteArray × ByteArray)) (ks : List ByteArray) (now : Int) (fr : Bool) : Prop where
  other : ∀ m : Nm, (m.2 ≠ n ∨ m.1 ∉ l.map (·.1)) → mlook s'.vs m = mlook s.vs m
  old : ∀ p ∈ l, ∀ h, mlook s.vs (p.1, n) = some h → mlook s'.vs (p.1, n) = some h
  new : ∀ p ∈ l, mlook s.vs (p.1, n) = none → ∃ kk, KOk kk ks ∧ mlook s'.vs (p.1, n) = some ⟨p.2, kk, ks, if n < lastOf s p.1 then now else -1⟩
  fresh : fr = true ↔ ∃ p ∈ l, mlook s.vs (p.1, n) = none
  ls : s'.ls = s.ls
theorem PutV.nil (s : Sto) (n : Nat) (ks : List ByteArray) (now : Int) : PutV s s n [] ks now false := ⟨fun _ _ => rfl, by simp, by simp, by simp, rfl⟩
theorem PutV.there {s s' : Sto} {n : Nat} {l : List (ByteArray × ByteArray)} {ks : List ByteArray} {now : Int} {fr : Bool} (h : PutV s s' n l ks now fr) {p : ByteArray × ByteArray} {hd : Hd} (hp : p.1 ∉ l.map (·.1)) (ht : mlook s'.vs (p.1, n) = some hd) : PutV s s' n (l ++ [p]) ks now fr := by
  have e := h.other (p.1, n) (.inr hp)
  rw [ht] at e
  refine ⟨fun m hm => h.other m ?_, fun q hq h' hh => ?_, fun q hq hn => ?_, ?_, h.ls⟩
  · simp -implicitDefEqProofs only [List.map_append, List.mem_append, not_or] at hm
    exact hm.imp id (·.1)
  · rcases List.mem_append.1 hq with hq | hq
    · exact h.old q hq h' hh
    · simp at hq; subst hq; rw [← e] at hh; rw [ht]; exact hh
  · rcases List.mem_append.1 hq with hq | hq
    · exact h.new q hq hn
    · simp at hq; subst hq; rw [← e] at hn; cases hn
  · rw [h.fresh]
    constructor
    · rintro ⟨q, hq, hn⟩; exact ⟨q, List.mem_append_left _ hq, hn⟩
    · rintro ⟨q, hq, hn⟩
      rcases List.mem_append.1 hq with hq | hq
      · exact ⟨q, hq, hn⟩
      · simp at hq; subst hq; rw [← e] at hn; cases hn
theorem PutV.add {s s' s2 : Sto} {n : Nat} {l : List (ByteArray × ByteArray)} {ks : List ByteArray} {now : Int} {fr : Bool} (h : PutV s s' n l ks now fr) {p : ByteArray × ByteArray} {kk : SK} (hp : p.1 ∉ l.map (·.1)) (hkk : KOk kk ks) (ht : mlook s'.vs (p.1, n) = none)
    (hv : s2.vs = mput s'.vs (p.1, n) ⟨p.2, kk, ks, if n < lastOf s p.1 then now else -1⟩) (hl : s2.ls = s'.ls) : PutV s s2 n (l ++ [p]) ks now true := by
  have e := h.other (p.1, n) (.inr hp)
  rw [ht] at e
  have key : ∀ q ∈ l, (q.1, n) ≠ (p.1, n) := fun q hq hh => hp (List.mem_map.2 ⟨q, hq, (Prod.mk.inj hh).1⟩)
  refine ⟨fun m hm => ?_, fun q hq h' hh => ?_, fun q hq hn => ?_, ⟨fun _ => ⟨p, by simp, e.symm⟩, fun _ => rfl⟩, hl.trans h.ls⟩
  · simp -implicitDefEqProofs only [List.map_append, List.mem_append, not_or] at hm
    rw [hv, mlook_put, if_neg]
    · exact h.other m (hm.imp id (·.1))
    · rintro rfl
      rcases hm with hm | hm
      · exact hm rfl
      · exact hm.2 (by simp)
  · rw [hv, mlook_put]
    rcases List.mem_append.1 hq with hq | hq
    · rw [if_neg (key q hq)]; exact h.old q hq h' hh
    · simp at hq; subst hq; rw [← e] at hh; cases hh
  · rw [hv, mlook_put]
    rcases List.mem_append.1 hq with hq | hq
    · rw [if_neg (key q hq)]; exact h.new q hq hn
    · simp at hq; subst hq; rw [if_pos rfl]; exact ⟨kk, hkk, rfl⟩
theorem pairs_lt {n : Nat} {l : List (ByteArray × ByteArray)} {ks : List ByteArray} (h : MayP n l ks) : ∀ (i j : Nat) p q, i < j → l[i]? = some p → l[j]? = some q → strLt p.1 q.1 = true
  | i, 0, _, _, hij, _, _ => by omega
  | i, j + 1, p, q, hij, hp, hq => by
    have hj := (List.getElem?_eq_some_iff.1 hq).1
    obtain ⟨r, hr⟩ := getP (l := l) (i := j) (by omega)
    have h1 := (h.2.2.2 (j + 1) hj q hq).1 (by omega) r (by simpa using hr)
    by_cases e : i = j
    · subst e; rw [hp] at hr; cases hr; exact h1
    · exact lt_trans' (pairs_lt h i j p r (by omega) hp hr) h1
def TickOk (n : Int) : Prop := 0 ≤ n ∧ n ≤ 1099511627776
def PutQ (b : Bk) (s : Sto) (F : Nat → Prop) (n : Nat) (l : List (ByteArray × ByteArray)) (ks : List ByteArray) (now : Int) (H : Heap) : Out → Heap → Prop := fun o H' =>
  ∃ s' F' fr, o = .val (.tup [.bool fr, .int .i64 0]) ∧ SH H' b s' F' ∧ SInv s' ∧ PutV s s' n l ks now fr ∧ s'.n ≤ s.n + l.length ∧ Frm F H H' ∧ ∀ c, F' c → F c ∨ (H.length ≤ c ∧ c < H'.length)
theorem put28 (b : Bk) (s : Sto) (F : Nat → Prop) (n : Nat) (k k' : SK) (l : List (ByteArray × ByteArray)) (ks : List ByteArray) (now : Int) (H : Heap) (hs : SH H b s F) (hi : SInv s) (hn : s.n + l.length ≤ 8000000) (hko : KOk k' ks) (hm : MayP n l ks) (ht : TickOk now) :
    W env (.call 42 [.ptr b.s 0, .int .u64 n, .sl k (l.map eP), .sl k' (ks.map eS), .int .i64 now]) H (PutQ b s F n l ks now H) := by
  have hks := hm.2.1.2.2
  refine W.fnI rfl rfl rfl ?_
  simp -implicitDefEqProofs only [ir42, op, ef, cl, sq, reduceIte, j2, j3, j4, j5, j6, j7, j8, j9, y1, S1]
  refine callB_of _ _ _ _ _ _ _ _ (may43 n k k' l ks _ (by omega) (by omega)) ?_
  rintro u H1 ⟨hx1, bb, hu, hb⟩
  have hbt : bb = true := hb.2 hm
  subst hbt
  cases hu
  simp -implicitDefEqProofs only [op, ef, cl, sq, reduceIte, j2, j3, j4, j5, j6, j7, j8, j9, y1, S1]
  refine callB_of _ _ _ _ _ _ _ _ (tick31 now _) ?_
  rintro u H1 ⟨hu, rfl⟩
  have htt : (decide (0 ≤ now) && decide (now ≤ 1099511627776)) = true := by simp [ht.1, ht.2]
  rw [htt] at hu
  cases hu
  simp -implicitDefEqProofs only [op, ef, cl, sq, reduceIte, j2, j3, j4, j5, j6, j7, j8, j9, y1, S1, List.length_map]
  refine W.loopI (fun (i : Nat) R H' => At H' (fun H' => ∃ s' F' fr, R 12 = .bool fr ∧ SH H' b s' F' ∧ SInv s' ∧ PutV s s' n (l.take i) ks now fr ∧ s'.n ≤ s.n + i ∧ Frm F H H' ∧ ∀ c, F' c → F c ∨ (H.length ≤ c ∧ c < H'.length)) ∧ R 0 = .ptr b.s 0 ∧ R 1 = .int .u64 n ∧ R 3 = .sl k' (ks.map eS) ∧ R 4 = .int .i64 now ∧ R 29 = .sl k (l.map eP) ∧ R 30 = .int .i64 l.length ∧ R 31 = .int .i64 i ∧ i ≤ l.length) (fun i => l.length - i) 0 ?_ ?_
  · obtain ⟨im, pm, sa⟩ := hs
    refine ⟨.i ⟨s, F, false, rfl, ⟨im, pm, sa.frm (ext_frm (F := fun _ => False) hx1) (fun _ _ _ h => h)⟩, hi, by rw [List.take_zero]; exact PutV.nil s n ks now, Nat.le_refl _, ext_frm hx1, fun c h => .inl h⟩, rfl, rfl, rfl, rfl, rfl, rfl, rfl, Nat.zero_le _⟩
  rintro i R H2 ⟨⟨s', F', fr, h12, hsh, hiv, hpv, hnn, hfr, hF⟩, h0, h1, h3, h4, h29, h30, h31, hil⟩
  by_cases hlt : i < l.length
  · obtain ⟨p, hp⟩ := getP hlt
    have ws := wrap_succ (show i < 9223372036854775807 by omega)
    have hia := iadX (e := eP) (n := 2) (fun _ => rfl) (by decide) (k := k) hp
    have hpn : p.1 ∉ (l.take i).map (·.1) := fun hh => by
      obtain ⟨q, hq, e⟩ := List.mem_map.1 hh
      obtain ⟨j, hj, e2⟩ := List.getElem_of_mem hq
      have hj' : j < i ∧ j < l.length := by simp -implicitDefEqProofs only [List.length_take] at hj; omega
      have hqj : l[j]? = some q := by rw [← e2]; simp [List.getElem?_eq_getElem hj'.2]
      have := pairs_lt hm j i q p hj'.1 hqj hp
      rw [e, lt_irr] at this; cases this
    obtain ⟨im, pm, sa⟩ := hsh
    have l0 := glt sa.hs
    have lv := glt sa.hv
    have ll := glt sa.hl
    have l01 : b.s < H2.length + 1 := by omega
    have l02 : b.s < H2.length + 2 := by omega
    have ll1 : b.l < H2.length + 1 := by omega
    have ll2 : b.l < H2.length + 2 := by omega
    have lv1 : b.v < H2.length + 1 := by omega
    have hlk := fun Hx z ok => lkpB_K kNok z ok Hx (encV s'.vs) (p.1, n)
    simp -implicitDefEqProofs only [kN, eN] at hlk
    have hhd : lkpT (mlook (encV s'.vs) (p.1, n)) (.agg [.str ⟨#[]⟩, .sl .nil [], .int .i64 0]) true = .tup [encHd (hdOf (mlook s'.vs (p.1, n))), .bool (mlook s'.vs (p.1, n)).isSome] := by
      unfold encV; rw [mlook_map]
      cases mlook s'.vs (p.1, n) <;> rfl
    have hll := lkp_last s' p.1
    have hsl : ∀ k, lastOf s' k = lastOf s k := fun k => by simp -implicitDefEqProofs only [lastOf, hpv.ls]
    rw [hsl] at hll
    cases e : mlook s'.vs (p.1, n) with
    | some h =>
      rw [e] at hhd
      simp -implicitDefEqProofs only [Option.isSome_some] at hhd
      simp -implicitDefEqProofs only [op, ef, cl, sq, reduceIte, j2, j3, j4, j5, j6, j7, j8, j9, y1, S1, S2, S3, List.length_set, h0, h1, h3, h4, h29, h30, h31, hlt, natOf_nat, hia, eP, sa.hs, sa.hv, l0, lv, hlk, hhd, encHd, ws]
      exact ⟨i + 1, by omega, .i ⟨s', F', fr, h12, ⟨im, pm, sa.frm (ext_frm (F := fun _ => False) (((Ext.rfl'.app _).app _).app _)) (fun _ _ _ h => h)⟩, hiv, by rw [take_sn hp]; exact hpv.there hpn e, by omega, ((hfr.app _).app _).app _, fun c h => (hF c h).imp id fun h => ⟨h.1, by have := h.2; simp; omega⟩⟩, rfl, by omega⟩
    | none =>
      rw [e] at hhd
      simp -implicitDefEqProofs only [Option.isSome_none] at hhd
      by_cases hlast : n < lastOf s p.1
      all_goals
        simp -implicitDefEqProofs only [op, ef, cl, sq, reduceIte, j2, j3, j4, j5, j6, j7, j8, j9, y1, S1, S2, S3, List.length_set, h0, h1, h3, h4, h29, h30, h31, hlt, natOf_nat, hia, eP, sa.hs, sa.hv, sa.hl, l0, l01, l02, lv, lv1, ll, ll1, ll2, hlk, hhd, encHd, lkpB_M, hll, hlast]
        refine callB_of _ _ _ _ _ _ _ _ (clone42 k' ks _ hko (by omega)) ?_
        rintro u H3 ⟨hx, kk, hkk, hu⟩
        cases hu
        have c0 : H3[H2.length]? = some (.cells [.str p.1, .str p.2]) := hx.get (by rw [g_app (by simp <;> omega), g_app (by simp), g_tail rfl])
        have c1 : H3[H2.length + 1]? = some (.cells [.str p.1, .int .u64 n]) := hx.get (by rw [g_app (by simp), g_tail (by simp)])
        have hxx : Ext H2 H3 := ((((Ext.rfl'.app _).app _).app _).trans hx)
        simp -implicitDefEqProofs only [op, ef, cl, sq, reduceIte, j2, j3, j4, j5, j6, j7, j8, j9, y1, S1, c0, c1]
        refine callB_of _ _ _ _ _ _ _ _ (put41 b s' F' p.1 n ⟨p.2, kk, ks, _⟩ _ ⟨im, pm, sa.frm (ext_frm (F := fun _ => False) hxx) (fun _ _ _ h => h)⟩ hiv e (by omega) ⟨hkk, by omega⟩) ?_
        rintro u H4 ⟨hu, s2, F2, hsh2, hiv2, hvs, hls, hn2, hfr2, hF2⟩
        cases hu
        have hpa : PutV s s2 n (l.take i ++ [p]) ks now true := hpv.add (kk := kk) hpn hkk e (by first | rw [if_pos hlast]; exact hvs | rw [if_neg hlast]; exact hvs) hls
        rw [← take_sn hp] at hpa
        simp -implicitDefEqProofs only [op, ef, cl, sq, reduceIte, j2, j3, j4, j5, j6, j7, j8, j9, y1, S1, h0, h1, h3, h4, h29, h30, h31, ws]
        exact ⟨i + 1, by omega, .i ⟨s2, F2, true, rfl, hsh2, hiv2, hpa, by omega, (hfr.trans (ext_frm (F := fun _ => False) hxx) (fun c h => h.elim)).trans hfr2 (fun c h => (hF c h).imp id (·.1)), fun c h => by
          have q1 := hfr.1
          have q2 := hxx.len
          have q3 := hfr2.1
          rcases hF2 c h with h | h
          · rcases hF c h with h | h
            · exact .inl h
            · exact .inr ⟨h.1, by omega⟩
          · exact .inr ⟨by omega, h.2⟩⟩, rfl, by omega⟩
  · have hil' : i = l.length := by omega
    subst hil'
    rw [List.take_length] at hpv
    simp -implicitDefEqProofs only [op, ef, cl, sq, reduceIte, j2, j3, j4, j5, j6, j7, j8, j9, y1, S1, h12, h30, h31, hlt]
    exact ⟨s', F', fr, rfl, hsh, hiv, hpv, hnn, hfr, hF⟩
end Go.Proofs.YtmgldhlcapjdkaaGreat.St
end

section
namespace Go.Proofs.YtmgldhlcapjdkaaGreat.St
open Go.Rmp Go.Proofs.YtmgldhlcapjdkaaGreat.Ir
set_option maxRecDepth 10000
theorem SAt.setv {H : Heap} {b : Bk} {im : List (ByteArray × T)} {pm : List (Nat × T)} {s : Sto} {F : Nat → Prop} (h : SAt H b im pm s F) (vs : List (Nm × Hd)) : SAt (H.set b.v (.map (encK kN (encV vs)))) b im pm { s with vs := vs } F := by
  obtain ⟨n1, n2, n3, n4⟩ := h.ne
  have k : ∀ {c x}, c ≠ b.v → H[c]? = some x → (H.set b.v (.map (encK kN (encV vs))))[c]? = some x := fun hc hx => by rw [g_ne (Ne.symm hc)]; exact hx
  exact ⟨k (Ne.symm n1) h.hs, g_eq (glt h.hv), k (Ne.symm h.vi) h.hi, k (Ne.symm h.vp) h.hp, k (Ne.symm h.vl) h.hl, h.vi, h.vp, h.vl, h.ip, h.il, h.pl, h.F0,
    fun q => (h.oi q).keep (fun c x hc hx => k (h.blkI hc).2.1 hx) (fun _ _ h => h), fun q => (h.op q).keep (fun c x hc hx => k (h.blkP hc).2.1 hx) (fun _ _ h => h), h.si, h.sp, h.sx, h.np⟩
theorem SAt.setl {H : Heap} {b : Bk} {im : List (ByteArray × T)} {pm : List (Nat × T)} {s : Sto} {F : Nat → Prop} (h : SAt H b im pm s F) (ls : List (ByteArray × Nat)) : SAt (H.set b.l (.map (encK T.str (encL ls)))) b im pm { s with ls := ls } F := by
  obtain ⟨n1, n2, n3, n4⟩ := h.ne
  have k : ∀ {c x}, c ≠ b.l → H[c]? = some x → (H.set b.l (.map (encK T.str (encL ls))))[c]? = some x := fun hc hx => by rw [g_ne (Ne.symm hc)]; exact hx
  exact ⟨k (Ne.symm n4) h.hs, k h.vl h.hv, k h.il h.hi, k h.pl h.hp, g_eq (glt h.hl), h.vi, h.vp, h.vl, h.ip, h.il, h.pl, h.F0,
    fun q => (h.oi q).keep (fun c x hc hx => k (h.blkI hc).2.2.2.2.1 hx) (fun _ _ h => h), fun q => (h.op q).keep (fun c x hc hx => k (h.blkP hc).2.2.2.2.1 hx) (fun _ _ h => h), h.si, h.sp, h.sx, h.np⟩
def stamped (h : Hd) (now : Int) : Hd := { h with stamp := now }
def VS (v v' : List (Nm × Hd)) (now : Int) (S : Nm → Prop) : Prop := (v'.map (·.1)).Nodup ∧ ∀ m, (mlook v m = none → mlook v' m = none) ∧ ∀ h, mlook v m = some h → (S m ∧ h.stamp = -1 → mlook v' m = some (stamped h now)) ∧ (¬ (S m ∧ h.stamp = -1) → mlook v' m = some h)
theorem VS.some {v v' : List (Nm × Hd)} {now : Int} {S : Nm → Prop} (h : VS v v' now S) (m : Nm) : (mlook v' m).isSome = (mlook v m).isSome := by
  obtain ⟨h1, h2⟩ := h.2 m
  cases e : mlook v m with
  | none => rw [h1 e]
  | some x =>
    by_cases hc : S m ∧ x.stamp = -1
    · rw [(h2 x e).1 hc]; rfl
    · rw [(h2 x e).2 hc]
theorem VS.inv {s : Sto} (hi : SInv s) {v' : List (Nm × Hd)} {now : Int} {S : Nm → Prop} (h : VS s.vs v' now S) (ls : List (ByteArray × Nat)) (hls : (ls.map (·.1)).Nodup) : SInv { s with vs := v', ls := ls } := by
  refine ⟨hi.rise, fun k n => ?_, hi.pnd, fun n k => ?_, h.1, fun m x hm => ?_, hi.bi, hi.bp, hls⟩
  · show n ∈ s.ids k ↔ (mlook v' (k, n)).isSome = true
    rw [h.some]; exact hi.idm k n
  · show k ∈ s.pls n ↔ (mlook v' (k, n)).isSome = true
    rw [h.some]; exact hi.plm n k
  · have hm : mlook v' m = .some x := hm
    obtain ⟨h1, h2⟩ := h.2 m
    cases e : mlook s.vs m with
    | none => rw [h1 e] at hm; cases hm
    | some y =>
      have hy := hi.kok m y e
      by_cases hc : S m ∧ y.stamp = -1
      · rw [(h2 y e).1 hc] at hm; cases hm; exact hy
      · rw [(h2 y e).2 hc] at hm; cases hm; exact hy
theorem VS.nil {v : List (Nm × Hd)} (hn : (v.map (·.1)).Nodup) {now : Int} : VS v v now (fun _ => False) := ⟨hn, fun m => ⟨id, fun h e => ⟨fun hh => hh.1.elim, fun _ => e⟩⟩⟩
theorem VS.mono {v v' : List (Nm × Hd)} {now : Int} {S S' : Nm → Prop} (h : VS v v' now S) (hs : ∀ m, (mlook v m).isSome = true → (S m ↔ S' m)) : VS v v' now S' := ⟨h.1, fun m => ⟨(h.2 m).1, fun x e => by
  have := hs m (by rw [e]; rfl)
  rw [← this]; exact (h.2 m).2 x e⟩⟩
theorem VS.add {v v' : List (Nm × Hd)} {now : Int} {S : Nm → Prop} (h : VS v v' now S) {m : Nm} {x : Hd} (hx : mlook v' m = .some x) (hc : x.stamp = -1) (hS : ¬ S m) : VS v (mput v' m (stamped x now)) now (fun m' => S m' ∨ m' = m) := by
  refine ⟨mput_nodup h.1 _ _, fun m' => ?_⟩
  rw [mlook_put]
  by_cases e : m' = m
  · subst e
    simp -implicitDefEqProofs only [if_true]
    have e2 := h.some m'
    rw [hx] at e2
    refine ⟨fun hn => (by rw [hn] at e2; cases e2), fun y hy => ?_⟩
    have : y = x := by
      have := ((h.2 m').2 y hy).2 fun hh => hS hh.1
      rw [hx] at this; exact (Option.some.inj this).symm
    subst this
    exact ⟨fun _ => rfl, fun hh => absurd ⟨.inr trivial, hc⟩ hh⟩
  · simp -implicitDefEqProofs only [e, if_false, or_false]
    exact h.2 m'
theorem VS.skip {v v' : List (Nm × Hd)} {now : Int} {S : Nm → Prop} (h : VS v v' now S) {m : Nm} {x : Hd} (hx : mlook v' m = .some x) (hc : x.stamp ≠ -1) (hS : ¬ S m) : VS v v' now (fun m' => S m' ∨ m' = m) := by
  refine ⟨h.1, fun m' => ⟨(h.2 m').1, fun y hy => ?_⟩⟩
  by_cases e : m' = m
  · subst e
    have := ((h.2 m').2 y hy).2 fun hh => hS hh.1
    have e2 : y = x := by rw [hx] at this; exact (Option.some.inj this).symm
    subst e2
    exact ⟨fun hh => absurd hh.2 hc, fun _ => hx⟩
  · simp -implicitDefEqProofs only [e, or_false]
    exact (h.2 m').2 y hy
structure ComV (s s' : Sto) (n : Nat) (now : Int) (D : List ByteArray) : Prop where
  vs : VS s.vs s'.vs now (fun m => m.1 ∈ D ∧ lastOf s m.1 < n ∧ m.2 < n)
  on : ∀ k, k ∈ D → lastOf s k < n → mlook s'.ls k = .some n
  off : ∀ k, ¬ (k ∈ D ∧ lastOf s k < n) → mlook s'.ls k = mlook s.ls k
  ndl : (s.ls.map (·.1)).Nodup → (s'.ls.map (·.1)).Nodup
def ComQ (b : Bk) (s : Sto) (F : Nat → Prop) (n : Nat) (now : Int) (H : Heap) : Out → Heap → Prop := fun o H' => ∃ s', o = .val (.tup [.int .i64 (s.pls n).length, .int .i64 0]) ∧ SH H' b s' F ∧ SInv s' ∧ ComV s s' n now (s.pls n) ∧ s'.n = s.n ∧ s'.pls = s.pls ∧ s'.ids = s.ids ∧ Frm F H H'
theorem ComV.skip {s s' : Sto} {n : Nat} {now : Int} {D : List ByteArray} (h : ComV s s' n now D) {k : ByteArray} (hk : n ≤ lastOf s k) : ComV s s' n now (D ++ [k]) := by
  have key : ∀ k', k' ∈ D ++ [k] ∧ lastOf s k' < n → k' ∈ D := fun k' hh => by
    rcases List.mem_append.1 hh.1 with h | h
    · exact h
    · simp at h; subst h; omega
  exact ⟨h.vs.mono fun m _ => ⟨fun hh => ⟨List.mem_append_left _ hh.1, hh.2⟩, fun hh => ⟨key _ ⟨hh.1, hh.2.1⟩, hh.2⟩⟩, fun k' h1 h2 => h.on k' (key _ ⟨h1, h2⟩) h2, fun k' hh => h.off k' fun h' => hh ⟨List.mem_append_left _ h'.1, h'.2⟩, h.ndl⟩
theorem ComV.add {s s' s2 : Sto} {n : Nat} {now : Int} {D : List ByteArray} (h : ComV s s' n now D) {k : ByteArray} (hk : lastOf s k < n) (hl : s2.ls = mput s'.ls k n)
    (hv : VS s.vs s2.vs now (fun m => (m.1 ∈ D ∧ lastOf s m.1 < n ∧ m.2 < n) ∨ (m.1 = k ∧ m.2 < n))) : ComV s s2 n now (D ++ [k]) := by
  refine ⟨hv.mono fun m _ => ?_, fun k' h1 h2 => ?_, fun k' hh => ?_, fun hh => by rw [hl]; exact mput_nodup (h.ndl hh) _ _⟩
  · simp -implicitDefEqProofs only [List.mem_append, List.mem_singleton]
    constructor
    · rintro (⟨a, b, c⟩ | ⟨a, c⟩)
      · exact ⟨.inl a, b, c⟩
      · exact ⟨.inr a, by rw [a]; exact hk, c⟩
    · rintro ⟨a | a, b, c⟩
      · exact .inl ⟨a, b, c⟩
      · exact .inr ⟨a, c⟩
  · rw [hl, mlook_put]
    by_cases e : k' = k
    · rw [if_pos e]
    · rw [if_neg e]; exact h.on k' (by simpa [e] using h1) h2
  · rw [hl, mlook_put, if_neg]
    · exact h.off k' fun h' => hh ⟨List.mem_append_left _ h'.1, h'.2⟩
    · rintro rfl; exact hh ⟨by simp, hk⟩
theorem commit14 (b : Bk) (s : Sto) (F : Nat → Prop) (n : Nat) (now : Int) (H : Heap) (hs : SH H b s F) (hi : SInv s) (hn : s.n ≤ 8000000) (hid : 65536 ≤ n) (ht : TickOk now) :
    W env (.call 43 [.ptr b.s 0, .int .u64 n, .int .i64 now]) H (ComQ b s F n now H) := by
  obtain ⟨im, pm, sa⟩ := hs
  have hid' : ¬ (n < 65536) := by omega
  obtain ⟨t, htt⟩ : ∃ t, lkpT (mlook pm n) (.sl .nil []) false = t := ⟨_, rfl⟩
  have hlt := ((sa.op n).mut).len
  rw [htt] at hlt
  have hbp := hi.bp n
  refine W.fnI rfl rfl rfl ?_
  simp -implicitDefEqProofs only [ir43, op, ef, cl, sq, reduceIte, j2, j3, j4, j5, j6, j7, j8, j9, y1, S1, hid']
  refine callB_of _ _ _ _ _ _ _ _ (tick31 now _) ?_
  rintro u H ⟨hu, rfl⟩
  have htk : (decide (0 ≤ now) && decide (now ≤ 1099511627776)) = true := by simp [ht.1, ht.2]
  rw [htk] at hu
  cases hu
  simp -implicitDefEqProofs only [op, ef, cl, sq, reduceIte, j2, j3, j4, j5, j6, j7, j8, j9, y1, S1, sa.hs, sa.hp, lkpB_N, htt]
  have hl := fun Hx (h : Mut eS 1 0 Hx t (s.pls n)) => h.len
  have hlH : ∀ Hx, lenT Hx .sl t = some (s.pls n).length := fun Hx => by
    have := (sa.op n).mut
    rw [htt] at this
    rcases this with ⟨e, rfl⟩ | ⟨c, rfl, _, _⟩
    · rw [e]; rfl
    · rfl
  simp -implicitDefEqProofs only [op, ef, cl, sq, reduceIte, j2, j3, j4, j5, j6, j7, j8, j9, y1, S1, hlH]
  refine W.loopI (fun (i : Nat) R H' => At H' (fun H' => ∃ s', SAt H' b im pm s' F ∧ s'.n = s.n ∧ s'.pls = s.pls ∧ s'.ids = s.ids ∧ ComV s s' n now ((s.pls n).take i) ∧ Frm F H H') ∧ R 0 = .ptr b.s 0 ∧ R 1 = .int .u64 n ∧ R 2 = .int .i64 now ∧ R 25 = t ∧ R 26 = .int .i64 (s.pls n).length ∧ R 27 = .int .i64 i ∧ i ≤ (s.pls n).length) (fun i => (s.pls n).length - i) 0 ?_ ?_
  · refine ⟨.i ⟨s, sa, rfl, rfl, rfl, ⟨(VS.nil hi.nd).mono fun m _ => ⟨fun h => h.elim, fun h => by simp at h⟩, by simp, fun _ _ => rfl, id⟩, Frm.refl _ _⟩, ?_, ?_, ?_, ?_, ?_, ?_, Nat.zero_le _⟩
    all_goals (simp -implicitDefEqProofs only [op, ef, cl, sq, reduceIte, j2, j3, j4, j5, j6, j7, j8, j9, y1, S1]; try rfl)
  rintro i R H2 ⟨⟨s', sa', hn', hpl, hids, hcv, hfr⟩, h0, h1, h2, h25, h26, h27, hil⟩
  by_cases hlt : i < (s.pls n).length
  · obtain ⟨k, hk⟩ := getP hlt
    have ws := wrap_succ (show i < 9223372036854775807 by omega)
    have hmt : Mut eS 1 0 H2 t (s.pls n) := by
      have := (sa'.op n).mut
      rwa [htt, hpl] at this
    obtain ⟨c, g1, g2, g3⟩ := mut_at (enc := eS) (fun _ => rfl) hmt hk
    have hkn : k ∉ (s.pls n).take i := fun hh => by
      obtain ⟨j, hj, e2⟩ := List.getElem_of_mem hh
      have hj' : j < i ∧ j < (s.pls n).length := by simp -implicitDefEqProofs only [List.length_take] at hj; omega
      have hjk : (s.pls n)[j]? = some k := by rw [← e2]; simp [List.getElem?_eq_getElem hj'.2]
      have := (List.getElem?_inj hj'.2 (hi.pnd n)).1 (hjk.trans hk.symm)
      omega
    have hlk := lkp_last s' k
    have hls : lastOf s' k = lastOf s k := by unfold lastOf; rw [hcv.off k fun h => hkn h.1]
    rw [hls] at hlk
    by_cases hge : n ≤ lastOf s k
    · simp -implicitDefEqProofs only [op, ef, cl, sq, reduceIte, j2, j3, j4, j5, j6, j7, j8, j9, y1, S1, h0, h1, h2, h25, h26, h27, hlt, natOf_nat, g1, g2, g3, eS, sa'.hs, sa'.hl, lkpB_M, hlk, hge, ws]
      exact ⟨i + 1, by omega, .i ⟨s', sa', hn', hpl, hids, by rw [take_sn hk]; exact hcv.skip hge, hfr⟩, rfl, by omega⟩
    · have hlt2 : lastOf s k < n := by omega
      have hupl : ∀ Hx, upmB (.sc .str) Hx b.l (some (.map (encK T.str (encL s'.ls)))) (.str k) (.int .u64 n) = some (undefT, Hx.set b.l (.map (encK T.str (encL (mput s'.ls k n))))) := fun Hx => by
        rw [upmB_M]; congr 4; exact congrArg (encK T.str) (mput_map (fun n : Nat => T.int .u64 n) s'.ls k n)
      have sa3 := sa'.setl (mput s'.ls k n)
      obtain ⟨t2, htt2⟩ : ∃ t2, lkpT (mlook im k) (.sl .nil []) false = t2 := ⟨_, rfl⟩
      have hlH2 : ∀ Hx, lenT Hx .sl t2 = some (s.ids k).length := fun Hx => by
        have := (sa.oi k).mut
        rw [htt2] at this
        rcases this with ⟨e, rfl⟩ | ⟨c, rfl, _, _⟩
        · rw [e]; rfl
        · rfl
      simp -implicitDefEqProofs only [op, ef, cl, sq, reduceIte, j2, j3, j4, j5, j6, j7, j8, j9, y1, S1, h0, h1, h2, h25, h26, h27, hlt, natOf_nat, g1, g2, g3, eS, sa'.hs, sa'.hl, lkpB_M, hlk, hge, hupl, sa3.hs, sa3.hi, htt2, hlH2]
      refine W.loopE 2 (fun (j : Nat) R H' => At H' (fun H' => ∃ v', SAt H' b im pm { s' with vs := v', ls := mput s'.ls k n } F ∧ VS s.vs v' now (fun m => (m.1 ∈ (s.pls n).take i ∧ lastOf s m.1 < n ∧ m.2 < n) ∨ (m.1 = k ∧ m.2 ∈ (s.ids k).take j)) ∧ Frm F H H') ∧ R 0 = .ptr b.s 0 ∧ R 1 = .int .u64 n ∧ R 2 = .int .i64 now ∧ R 9 = .str k ∧ R 25 = t ∧ R 26 = .int .i64 (s.pls n).length ∧ R 27 = .int .i64 i ∧ R 50 = t2 ∧ R 51 = .int .i64 (s.ids k).length ∧ R 52 = .int .i64 j ∧ j ≤ (s.ids k).length ∧ ∀ p a, p < j → (s.ids k)[p]? = some a → a < n) (fun j => (s.ids k).length - j) 0
        (fun R H' => At H' (fun H' => ∃ v', SAt H' b im pm { s' with vs := v', ls := mput s'.ls k n } F ∧ VS s.vs v' now (fun m => (m.1 ∈ (s.pls n).take i ∧ lastOf s m.1 < n ∧ m.2 < n) ∨ (m.1 = k ∧ m.2 < n)) ∧ Frm F H H') ∧ R 0 = .ptr b.s 0 ∧ R 1 = .int .u64 n ∧ R 2 = .int .i64 now ∧ R 25 = t ∧ R 26 = .int .i64 (s.pls n).length ∧ R 27 = .int .i64 i) ?_ ?_ ?_
      · refine ⟨.i ⟨s'.vs, sa3, hcv.vs.mono fun m _ => ⟨.inl, fun h => h.elim id fun h => by simp at h⟩, hfr.set (.inl sa.F0.2.2.2.2) _⟩, ?_, ?_, ?_, ?_, ?_, ?_, ?_, ?_, ?_, ?_, Nat.zero_le _, fun p a h => by omega⟩
        all_goals (simp -implicitDefEqProofs only [op, ef, cl, sq, reduceIte, j2, j3, j4, j5, j6, j7, j8, j9, y1, S1, h0, h1, h2, h25, h26, h27, hlH2]; try rfl)
      · rintro j R H3 ⟨⟨v', sa4, hvs, hfr4⟩, q0, q1, q2, q9, q25, q26, q27, q50, q51, q52, hjl, hall⟩
        by_cases hj : j < (s.ids k).length
        · obtain ⟨o, ho⟩ := getP hj
          have wj := wrap_succ (show j < 9223372036854775807 by have := hi.bi k; omega)
          have hmt2 : Mut eU 1 0 H3 t2 (s.ids k) := by
            have := (sa4.oi k).mut
            simp -implicitDefEqProofs only [hids] at this
            rwa [htt2] at this
          obtain ⟨c2, e1, e2, e3⟩ := mut_at (enc := eU) (fun _ => rfl) hmt2 ho
          by_cases hon : n ≤ o
          · simp -implicitDefEqProofs only [op, ef, cl, sq, reduceIte, j2, j3, j4, j5, j6, j7, j8, j9, y1, S1, q0, q1, q2, q9, q25, q26, q27, q50, q51, q52, hj, natOf_nat, e1, e2, e3, eU, hon]
            refine ⟨v', sa4, hvs.mono fun m hm => ?_, hfr4⟩
            refine or_congr Iff.rfl ⟨fun ⟨a1, a2⟩ => ⟨a1, ?_⟩, fun ⟨a1, a2⟩ => ⟨a1, ?_⟩⟩
            · obtain ⟨p, hp, e⟩ := List.getElem_of_mem a2
              have hp' : p < j ∧ p < (s.ids k).length := by simp -implicitDefEqProofs only [List.length_take] at hp; omega
              exact hall p m.2 hp'.1 (by rw [← e]; simp [List.getElem?_eq_getElem hp'.2])
            · have hin := (hi.idm k m.2).2 (by rw [← a1]; exact hm)
              obtain ⟨p, hp, e⟩ := List.getElem_of_mem hin
              have hpe : (s.ids k)[p]? = some m.2 := by rw [List.getElem?_eq_getElem hp, e]
              rcases Nat.lt_trichotomy p j with h | h | h
              · exact List.mem_of_getElem? (i := p) (by rw [List.getElem?_take, if_pos h]; exact hpe)
              · subst h; rw [ho] at hpe; cases hpe; omega
              · have := hi.rise k j p o m.2 h ho hpe; omega
          · have hoi := (hi.idm k o).1 (List.mem_of_getElem? ho)
            rw [← hvs.some] at hoi
            obtain ⟨x, hx⟩ := Option.isSome_iff_exists.1 hoi
            have hhd := lkp_hd v' (k, o)
            rw [hx] at hhd
            have hlk2 := fun Hx z ok => lkpB_K kNok z ok Hx (encV v') (k, o)
            simp -implicitDefEqProofs only [kN, eN] at hlk2
            have hnS : ¬ (((k, o) : Nm).1 ∈ (s.pls n).take i ∧ lastOf s ((k, o) : Nm).1 < n ∧ ((k, o) : Nm).2 < n ∨ ((k, o) : Nm).1 = k ∧ ((k, o) : Nm).2 ∈ (s.ids k).take j) := by
              rintro (hh | ⟨_, hh⟩)
              · exact hkn hh.1
              · obtain ⟨p, hp, e⟩ := List.getElem_of_mem hh
                have hp' : p < j ∧ p < (s.ids k).length := by simp -implicitDefEqProofs only [List.length_take] at hp; omega
                have e : ((s.ids k).take j)[p] = o := e
                have hpe : (s.ids k)[p]? = some o := by rw [← e]; simp [List.getElem?_eq_getElem hp'.2]
                have := hi.rise k p j o o hp'.1 hpe ho; omega
            have hSS : ∀ m : Nm, (((m.1 ∈ (s.pls n).take i ∧ lastOf s m.1 < n ∧ m.2 < n) ∨ (m.1 = k ∧ m.2 ∈ (s.ids k).take j)) ∨ m = (k, o)) ↔ ((m.1 ∈ (s.pls n).take i ∧ lastOf s m.1 < n ∧ m.2 < n) ∨ (m.1 = k ∧ m.2 ∈ (s.ids k).take (j + 1))) := fun m => by
              rw [take_sn ho, List.mem_append, List.mem_singleton, or_assoc]
              refine or_congr Iff.rfl ?_
              constructor
              · rintro (⟨a1, a2⟩ | rfl)
                · exact ⟨a1, .inl a2⟩
                · exact ⟨rfl, .inr rfl⟩
              · rintro ⟨a1, a2 | a2⟩
                · exact .inl ⟨a1, a2⟩
                · exact .inr (Prod.ext a1 a2)
            have hall' : ∀ p a, p < j + 1 → (s.ids k)[p]? = some a → a < n := fun p a hp ha => by
              by_cases e : p = j
              · subst e; rw [ho] at ha; cases ha; omega
              · exact hall p a (by omega) ha
            have l0 := glt sa4.hs
            have lv := glt sa4.hv
            have hup := fun Hx v => upmB_K kNok Hx b.v (encV v') (k, o) v
            simp -implicitDefEqProofs only [kN, eN] at hup
            by_cases hst : x.stamp = -1
            · simp -implicitDefEqProofs only [op, ef, cl, sq, reduceIte, j2, j3, j4, j5, j6, j7, j8, j9, y1, S1, S2, S3, List.length_set, q0, q1, q2, q9, q25, q26, q27, q50, q51, q52, hj, natOf_nat, e1, e2, e3, eU, hon, sa4.hs, sa4.hv, hlk2, hhd, hdOf, Option.getD_some, encHd, hst, l0, lv, hup, wj]
              have e : mput (encV v') (k, o) (T.agg [T.str x.value, T.sl x.kk (x.keys.map eS), T.int IntKind.i64 now]) = encV (mput v' (k, o) (stamped x now)) := mput_map encHd v' (k, o) (stamped x now)
              rw [e]
              exact ⟨j + 1, by omega, .i ⟨_, (sa4.setv (mput v' (k, o) (stamped x now))).frm (ext_frm (F := fun _ => False) (Ext.rfl'.app _)) (fun _ _ _ h => h), (hvs.add hx hst hnS).mono fun m _ => hSS m, (hfr4.set (.inl sa.F0.2.1) _).app _⟩, rfl, by omega, hall'⟩
            · have hst' : (x.stamp == -1) = false := by simpa using hst
              simp -implicitDefEqProofs only [op, ef, cl, sq, reduceIte, j2, j3, j4, j5, j6, j7, j8, j9, y1, S1, S2, S3, List.length_set, q0, q1, q2, q9, q25, q26, q27, q50, q51, q52, hj, natOf_nat, e1, e2, e3, eU, hon, sa4.hs, sa4.hv, hlk2, hhd, hdOf, Option.getD_some, encHd, hst', l0, lv, wj]
              exact ⟨j + 1, by omega, .i ⟨v', sa4.frm (ext_frm (F := fun _ => False) (Ext.rfl'.app _)) (fun _ _ _ h => h), (hvs.skip hx hst hnS).mono fun m _ => hSS m, hfr4.app _⟩, rfl, by omega, hall'⟩
        · have hje : j = (s.ids k).length := by omega
          subst hje
          simp -implicitDefEqProofs only [op, ef, cl, sq, reduceIte, j2, j3, j4, j5, j6, j7, j8, j9, y1, S1, q0, q1, q2, q9, q25, q26, q27, q50, q51, q52, hj]
          refine ⟨v', sa4, hvs.mono fun m hm => ?_, hfr4⟩
          rw [List.take_length]
          refine or_congr Iff.rfl ⟨fun ⟨a1, a2⟩ => ⟨a1, ?_⟩, fun ⟨a1, a2⟩ => ⟨a1, (hi.idm k m.2).2 (by rw [← a1]; exact hm)⟩⟩
          obtain ⟨p, hp, e⟩ := List.getElem_of_mem a2
          exact hall p m.2 hp (by rw [List.getElem?_eq_getElem hp, e])
      · rintro R H3 ⟨⟨v', sa4, hvs, hfr4⟩, q0, q1, q2, q25, q26, q27⟩
        simp -implicitDefEqProofs only [op, ef, cl, sq, reduceIte, j2, j3, j4, j5, j6, j7, j8, j9, y1, S1, q0, q1, q2, q25, q26, q27, ws]
        exact ⟨i + 1, by omega, .i ⟨_, sa4, hn', hpl, hids, by rw [take_sn hk]; exact hcv.add hlt2 rfl hvs, hfr4⟩, rfl, by omega⟩
  · have hil' : i = (s.pls n).length := by omega
    subst hil'
    rw [List.take_length] at hcv
    simp -implicitDefEqProofs only [op, ef, cl, sq, reduceIte, j2, j3, j4, j5, j6, j7, j8, j9, y1, S1, h0, h1, h26, h27, hlt, sa'.hs, sa'.hp, lkpB_N, htt, hlH]
    exact ⟨s', rfl, ⟨im, pm, sa'⟩, (hcv.vs.inv hi s'.ls (hcv.ndl hi.ndl)) |> fun h => (by have e : s' = { s with vs := s'.vs, ls := s'.ls } := (by cases s'; cases s; simp_all); rw [e]; exact h), hcv, hn', hpl, hids, hfr⟩
end Go.Proofs.YtmgldhlcapjdkaaGreat.St
end

section

end

section
namespace Go.Proofs.YtmgldhlcapjdkaaGreat.St
open Go.Rmp Go.Proofs.YtmgldhlcapjdkaaGreat.Ir
set_option maxRecDepth 10000
abbrev rdy (n : Nat) (R0 : Regs) (ps : List Nat) (asg body : C) : B := .loop .ready Option.none n R0 ps asg body
abbrev bsy (n : Nat) (R0 : Regs) (ps : List Nat) (asg body : C) : B := .loop .busy Option.none n R0 ps asg body
theorem ext_of {H H' : Heap} (h : ∀ (c : Nat) x, H[c]? = some x → H'[c]? = some x) : Ext H H' := by
  have hl : H.length ≤ H'.length := by
    rcases Nat.eq_zero_or_pos H.length with h0 | h0
    · omega
    · obtain ⟨x, hx⟩ := getP (l := H) (i := H.length - 1) (by omega)
      have := glt (h _ x hx)
      omega
  refine ⟨H'.drop H.length, List.ext_getElem? fun i => ?_⟩
  by_cases hi : i < H.length
  · obtain ⟨x, hx⟩ := getP hi
    rw [List.getElem?_append_left hi, hx, h i x hx]
  · rw [List.getElem?_append_right (by omega), List.getElem?_drop]
    congr 1; omega
end Go.Proofs.YtmgldhlcapjdkaaGreat.St
end

section
namespace Go.Proofs.YtmgldhlcapjdkaaGreat.St
open Go.Rmp Go.Proofs.YtmgldhlcapjdkaaGreat.Ir
set_option maxRecDepth 10000
def deadT (H : Heap) : T → Heap
  | .msl b _ _ _ => H.set b .dead
  | _ => H
theorem dead_len (H : Heap) (t : T) : (deadT H t).length = H.length := by cases t <;> simp [deadT]
theorem dead_get {H : Heap} {t : T} {a : Nat} (h : ∀ off len m, t ≠ .msl a off len m) : (deadT H t)[a]? = H[a]? := by
  cases t with
  | msl b off len m => exact g_ne (fun e => h off len m (by rw [e]))
  | _ => rfl
theorem appM_fun {α : Type} {enc : α → List T} {n n0 bytes : Nat} (hn : ∀ x, (enc x).length = n) {H : Heap} {t : T} {l : List α} (h : Mut enc n n0 H t l) (v : α) (hr : roomOk (l.length + 1) bytes = true) : appM H n bytes t [enc v] = some (.msl H.length 0 (l.length + 1) n, deadT H t ++ [.cells (msC enc (l ++ [v]))]) := by
  have happ : msC enc l ++ enc v = msC enc (l ++ [v]) := by simp [msC]
  rcases h with ⟨rfl, rfl⟩ | ⟨b, rfl, hb, _⟩
  · simp -implicitDefEqProofs only [List.length_nil, Nat.zero_add] at hr
    simp [appM, hr, deadT, msC]
  · have hc : l.length * n = (msC enc l).length := (msC_len hn l).symm
    simp [appM, hb, hc, hr, deadT, happ]
end Go.Proofs.YtmgldhlcapjdkaaGreat.St
end

section
namespace Go.Proofs.YtmgldhlcapjdkaaGreat.St
open Go.Rmp Go.Proofs.YtmgldhlcapjdkaaGreat.Ir
set_option maxRecDepth 10000
theorem arr_get {α : Type} [Inhabited α] {d : Array α} {i : Nat} (h : i < d.size) : d.toList[i]? = some d[i]! := by
  rw [Array.getElem?_toList, Array.getElem?_eq_getElem h, getElem!_pos d i h]
theorem swp_list {α : Type} [Inhabited α] (d : Array α) (i j : Nat) : (Go.Sort.swp d i j).toList = (d.toList.set i d[j]!).set j d[i]! := by
  simp [Go.Sort.swp, Array.toList_setIfInBounds]
theorem swp_size {α : Type} [Inhabited α] (d : Array α) (i j : Nat) : (Go.Sort.swp d i j).size = d.size := by simp [Go.Sort.swp]
end Go.Proofs.YtmgldhlcapjdkaaGreat.St
end

section
namespace Go.Proofs.YtmgldhlcapjdkaaGreat.St
open Go.Rmp Go.Proofs.YtmgldhlcapjdkaaGreat.Ir
set_option maxRecDepth 10000
set_option maxHeartbeats 8000000
theorem wA {a b : Nat} (h : a + b < 9223372036854775808) : IntKind.i64.wrap ((a : Int) + (b : Int)) = ((a + b : Nat) : Int) := by rw [wrap64 (by omega)]; omega
theorem wA1 {a : Nat} (h : a + 1 < 9223372036854775808) : IntKind.i64.wrap ((a : Int) + 1) = ((a + 1 : Nat) : Int) := by rw [wrap64 (by omega)]; omega
theorem wS {a b : Nat} (h : b ≤ a ∧ a < 9223372036854775808) : IntKind.i64.wrap ((a : Int) - (b : Int)) = ((a - b : Nat) : Int) := by rw [wrap64 (by omega)]; omega
theorem wS1 {a : Nat} (h : 1 ≤ a ∧ a < 9223372036854775808) : IntKind.i64.wrap ((a : Int) - 1) = ((a - 1 : Nat) : Int) := by rw [wrap64 (by omega)]; omega
theorem wM {a : Nat} (h : 2 * a < 9223372036854775808) : IntKind.i64.wrap (2 * (a : Int)) = ((2 * a : Nat) : Int) := by rw [wrap64 (by omega)]; omega
theorem dect {p : Prop} [Decidable p] (h : p) : decide p = true := decide_eq_true h
theorem decf {p : Prop} [Decidable p] (h : ¬ p) : decide p = false := decide_eq_false h
theorem and_t {a b : Bool} (h : a = true) (h' : b = true) : (a && b) = true := by rw [h, h']; rfl
theorem and_f1 {a b : Bool} (h : a = false) : ¬ ((a && b) = true) := by rw [h]; simp
theorem and_f2 {a b : Bool} (h : b = false) : ¬ ((a && b) = true) := by rw [h]; simp
theorem not_t {a : Bool} (h : a = true) : ¬ ((!a) = true) := by rw [h]; simp
theorem not_f {a : Bool} (h : a = false) : (!a) = true := by rw [h]; rfl
end Go.Proofs.YtmgldhlcapjdkaaGreat.St
end

section

end

section
namespace Go.Proofs.YtmgldhlcapjdkaaGreat.St
open Go.Rmp Go.Proofs.YtmgldhlcapjdkaaGreat.Ir
set_option maxRecDepth 10000
set_option maxHeartbeats 8000000
theorem wQ2 {a : Nat} (h : a < 9223372036854775808) : IntKind.i64.wrap ((a : Int).tdiv 2) = ((a / 2 : Nat) : Int) := by rw [Int.tdiv_eq_ediv_of_nonneg (by omega), wrap64 (by omega)]; omega
theorem wS0 {a : Nat} (h : a < 9223372036854775808) : IntKind.i64.wrap ((a : Int) - 1) = (a : Int) - 1 := wrap64 (by omega)
theorem nge0 {a : Nat} : (((a : Nat) : Int) ≥ 0) = True := by simp
end Go.Proofs.YtmgldhlcapjdkaaGreat.St
end

section
namespace Go.Proofs.YtmgldhlcapjdkaaGreat.St
open Go.Rmp Go.Proofs.YtmgldhlcapjdkaaGreat.Ir
set_option maxRecDepth 10000
set_option maxHeartbeats 8000000
def OrdQ (p : Nat) (r : Nat × Nat × Nat) (H : Heap) : Out → Heap → Prop := fun o H' => o = .val (.tup [.int .i64 r.1, .int .i64 r.2.1]) ∧ H'[p]? = some (.cells [.int .i64 r.2.2]) ∧ Frm (fun x => x = p) H H'
def MedQ (p : Nat) (r : Nat × Nat) (H : Heap) : Out → Heap → Prop := fun o H' => o = .val (.int .i64 r.1) ∧ H'[p]? = some (.cells [.int .i64 r.2]) ∧ Frm (fun x => x = p) H H'
theorem wQ4 {a : Nat} (h : a < 9223372036854775808) : IntKind.i64.wrap ((a : Int).tdiv 4) = ((a / 4 : Nat) : Int) := by rw [Int.tdiv_eq_ediv_of_nonneg (by omega), wrap64 (by omega)]; omega
theorem wM1 {a : Nat} (h : a < 9223372036854775808) : IntKind.i64.wrap ((a : Int) * 1) = ((a * 1 : Nat) : Int) := by rw [wrap64 (by omega)]; omega
theorem wM2 {a : Nat} (h : a * 2 < 9223372036854775808) : IntKind.i64.wrap ((a : Int) * 2) = ((a * 2 : Nat) : Int) := by rw [wrap64 (by omega)]; omega
theorem wM3 {a : Nat} (h : a * 3 < 9223372036854775808) : IntKind.i64.wrap ((a : Int) * 3) = ((a * 3 : Nat) : Int) := by rw [wrap64 (by omega)]; omega
def hintN : Go.Sort.Hint → Int
  | .unknown => 0
  | .increasing => 1
  | .decreasing => 2
end Go.Proofs.YtmgldhlcapjdkaaGreat.St
end

section
namespace Go.Proofs.YtmgldhlcapjdkaaGreat.St
open Go.Rmp Go.Proofs.YtmgldhlcapjdkaaGreat.Ir
set_option maxRecDepth 10000
set_option maxHeartbeats 8000000
open Go.Sort (bitsLen)
theorem log2_div {n k : Nat} (h : 2 ^ k ≤ n) : (n / 2 ^ k).log2 + k = n.log2 := by
  have h0 : 0 < 2 ^ k := Nat.two_pow_pos k
  have hn : n ≠ 0 := by omega
  have hq : n / 2 ^ k ≠ 0 := by have := Nat.div_pos h h0; omega
  have h1 := Nat.log2_self_le hq
  have h2 := Nat.lt_log2_self (n := n / 2 ^ k)
  refine ((Nat.log2_eq_iff hn).2 ⟨?_, ?_⟩).symm
  · rw [Nat.pow_add]; exact (Nat.le_div_iff_mul_le h0).1 h1
  · rw [show (n / 2 ^ k).log2 + k + 1 = ((n / 2 ^ k).log2 + 1) + k by omega, Nat.pow_add]; exact (Nat.div_lt_iff_lt_mul h0).1 h2
theorem bits_div {n k : Nat} (h : 2 ^ k ≤ n) : bitsLen (n / 2 ^ k) + k = bitsLen n := by
  have h0 : 0 < 2 ^ k := Nat.two_pow_pos k
  have hq : n / 2 ^ k ≠ 0 := by have := Nat.div_pos h h0; omega
  have := log2_div h
  unfold bitsLen
  rw [if_neg hq, if_neg (by omega)]
  omega
theorem bits_lt {n k : Nat} (h : n < 2 ^ k) : bitsLen n ≤ k := by
  unfold bitsLen
  split
  · omega
  · rename_i h0; have := (Nat.log2_lt h0).2 h; omega
def tbl : Array UInt8 := #[0, 1, 2, 2, 3, 3, 3, 3, 4, 4, 4, 4, 4, 4, 4, 4, 5, 5, 5, 5, 5, 5, 5, 5, 5, 5, 5, 5, 5, 5, 5, 5, 6, 6, 6, 6, 6, 6, 6, 6, 6, 6, 6, 6, 6, 6, 6, 6, 6, 6, 6, 6, 6, 6, 6, 6, 6, 6, 6, 6, 6, 6, 6, 6, 7, 7, 7, 7, 7, 7, 7, 7, 7, 7, 7, 7, 7, 7, 7, 7, 7, 7, 7, 7, 7, 7, 7, 7, 7, 7, 7, 7, 7, 7, 7, 7, 7, 7, 7, 7, 7, 7, 7, 7, 7, 7, 7, 7, 7, 7, 7, 7, 7, 7, 7, 7, 7, 7, 7, 7, 7, 7, 7, 7, 7, 7, 7, 7, 8, 8, 8, 8, 8, 8, 8, 8, 8, 8, 8, 8, 8, 8, 8, 8, 8, 8, 8, 8, 8, 8, 8, 8, 8, 8, 8, 8, 8, 8, 8, 8, 8, 8, 8, 8, 8, 8, 8, 8, 8, 8, 8, 8, 8, 8, 8, 8, 8, 8, 8, 8, 8, 8, 8, 8, 8, 8, 8, 8, 8, 8, 8, 8, 8, 8, 8, 8, 8, 8, 8, 8, 8, 8, 8, 8, 8, 8, 8, 8, 8, 8, 8, 8, 8, 8, 8, 8, 8, 8, 8, 8, 8, 8, 8, 8, 8, 8, 8, 8, 8, 8, 8, 8, 8, 8, 8, 8, 8, 8, 8, 8, 8, 8, 8, 8, 8, 8, 8, 8, 8, 8, 8, 8, 8, 8, 8, 8]
def tblB : Bool := (List.range 256).all fun n => match tbl[n]? with | some c => c.toNat == bitsLen n | none => false
theorem tblB_ok : tblB = true := by decide +kernel
theorem tbl_at {β : Type} {K : Option β → Prop} {n : Nat} (hn : n < 256) (f : UInt8 → β) (h : ∀ c : UInt8, c.toNat = bitsLen n → K (some (f c))) : K (Option.map f tbl[n]?) := by
  have := List.all_eq_true.1 tblB_ok n (List.mem_range.2 hn)
  split at this
  · rename_i c hc
    rw [hc]; exact h c (by simpa using this)
  · cases this
theorem len84 (n : Nat) (hn : n < 16777216) (H : Heap) : W env (.call 149 [.int .u64 n]) H (fun o H' => o = .val (.int .i64 (bitsLen n)) ∧ H' = H) := by
  refine W.fnI rfl rfl rfl ?_
  have h1 : ¬ (4294967296 ≤ n) := by omega
  have fin : ∀ (m k : Nat), m < 256 → k ≤ 16 → IntKind.i64.wrap ((k : Int) + ((bitsLen m : Nat) : Int)) = ((bitsLen m + k : Nat) : Int) := fun m k hm hk => by
    have := bits_lt (n := m) (k := 8) hm
    rw [wrap64 (by omega)]; omega
  by_cases h2 : 65536 ≤ n
  · have e16 : (n : Int).fdiv (2 ^ (min (16 : Int).toNat IntKind.u64.bits)) = ((n / 65536 : Nat) : Int) := by
      show (n : Int).fdiv 65536 = _
      rw [Int.fdiv_eq_ediv_of_nonneg _ (by decide)]; omega
    have h3 : ¬ (256 ≤ n / 65536) := by omega
    have w8' := wrap8 (n := n / 65536) (by omega)
    have w16 : IntKind.i64.wrap (0 + 16) = 16 := by decide
    have := fin (n / 65536) 16 (by omega) (by omega)
    rw [show bitsLen (n / 65536) + 16 = bitsLen n from bits_div (k := 16) h2] at this
    simp -implicitDefEqProofs only [ir149, op, ef, cl, sq, reduceIte, j2, j3, j4, j5, j6, j7, j8, j9, y1, S1, h1, h2, e16, h3, w8', w16, natOf_nat]
    refine tbl_at (K := stepB env _ _ _ _ _ _ _ _) (by omega) _ fun ch hch => ?_
    have wc : IntKind.i64.wrap ((ch.toNat : Nat) : Int) = ((ch.toNat : Nat) : Int) := wrap64 (by have := ch.toNat_lt; omega)
    rw [hch] at wc
    simp -implicitDefEqProofs only [op, ef, cl, sq, reduceIte, j2, j3, j4, j5, j6, j7, j8, j9, y1, S1, hch, wc]
    exact congrArg (fun x => Out.val (.int .i64 x)) this
  by_cases h3 : 256 ≤ n
  · have e8 : (n : Int).fdiv (2 ^ (min (8 : Int).toNat IntKind.u64.bits)) = ((n / 256 : Nat) : Int) := by
      show (n : Int).fdiv 256 = _
      rw [Int.fdiv_eq_ediv_of_nonneg _ (by decide)]; omega
    have w8' := wrap8 (n := n / 256) (by omega)
    have w80 : IntKind.i64.wrap (0 + 8) = 8 := by decide
    have := fin (n / 256) 8 (by omega) (by omega)
    rw [show bitsLen (n / 256) + 8 = bitsLen n from bits_div (k := 8) h3] at this
    simp -implicitDefEqProofs only [ir149, op, ef, cl, sq, reduceIte, j2, j3, j4, j5, j6, j7, j8, j9, y1, S1, h1, h2, e8, h3, w8', w80, natOf_nat]
    refine tbl_at (K := stepB env _ _ _ _ _ _ _ _) (by omega) _ fun ch hch => ?_
    have wc : IntKind.i64.wrap ((ch.toNat : Nat) : Int) = ((ch.toNat : Nat) : Int) := wrap64 (by have := ch.toNat_lt; omega)
    rw [hch] at wc
    simp -implicitDefEqProofs only [op, ef, cl, sq, reduceIte, j2, j3, j4, j5, j6, j7, j8, j9, y1, S1, hch, wc]
    exact congrArg (fun x => Out.val (.int .i64 x)) this
  · have w8' := wrap8 (n := n) (by omega)
    have := fin n 0 (by omega) (by omega)
    simp -implicitDefEqProofs only [ir149, op, ef, cl, sq, reduceIte, j2, j3, j4, j5, j6, j7, j8, j9, y1, S1, h1, h2, h3, w8', natOf_nat]
    refine tbl_at (K := stepB env _ _ _ _ _ _ _ _) (by omega) _ fun ch hch => ?_
    have wc : IntKind.i64.wrap ((ch.toNat : Nat) : Int) = ((ch.toNat : Nat) : Int) := wrap64 (by have := ch.toNat_lt; omega)
    rw [hch] at wc
    simp -implicitDefEqProofs only [op, ef, cl, sq, reduceIte, j2, j3, j4, j5, j6, j7, j8, j9, y1, S1, hch, wc]
    exact congrArg (fun x => Out.val (.int .i64 x)) this
theorem len65 (n : Nat) (hn : n < 16777216) (H : Heap) : W env (.call 107 [.int .u64 n]) H (fun o H' => o = .val (.int .i64 (bitsLen n)) ∧ H' = H) := by
  refine W.fnI rfl rfl rfl ?_
  simp -implicitDefEqProofs only [ir107, op, ef, cl, sq, reduceIte, j2, j3, j4, j5, j6, j7, j8, j9, y1, S1]
  refine callB_of _ _ _ _ _ _ _ _ (len84 n hn _) ?_
  rintro u H1 ⟨hu, rfl⟩
  cases hu
  simp -implicitDefEqProofs only [op, ef, cl, sq, reduceIte, j2, j3, j4, j5, j6, j7, j8, j9, y1, S1]
theorem next97 (n : Nat) (hn : n < 16777216) (H : Heap) : W env (.call 176 [.int .i64 n]) H (fun o H' => o = .val (.int .u64 ((1 <<< bitsLen n : Nat) : Int)) ∧ H' = H) := by
  refine W.fnI rfl rfl rfl ?_
  have wu := wrapu (n := n) (by omega)
  simp -implicitDefEqProofs only [ir176, op, ef, cl, sq, reduceIte, j2, j3, j4, j5, j6, j7, j8, j9, y1, S1, wu]
  refine callB_of _ _ _ _ _ _ _ _ (len65 n hn _) ?_
  rintro u H1 ⟨hu, rfl⟩
  cases hu
  have hb := bits_lt (n := n) (k := 24) hn
  have n0 : ¬ (((bitsLen n : Nat) : Int) < 0) := by omega
  have e : IntKind.u64.wrap (1 * 2 ^ (min ((bitsLen n : Nat) : Int).toNat IntKind.u64.bits)) = ((1 <<< bitsLen n : Nat) : Int) := by
    rw [Int.toNat_natCast, Nat.min_eq_left (by show bitsLen n ≤ 64; omega), Nat.one_shiftLeft, Int.one_mul]
    have : (2 : Nat) ^ bitsLen n ≤ 2 ^ 24 := Nat.pow_le_pow_right (by decide) hb
    have h2 : ((2 : Int) ^ bitsLen n) = ((2 ^ bitsLen n : Nat) : Int) := by simp
    rw [h2]
    exact wrapu (by omega)
  simp -implicitDefEqProofs only [op, ef, cl, sq, reduceIte, j2, j3, j4, j5, j6, j7, j8, j9, y1, S1, n0, e]
end Go.Proofs.YtmgldhlcapjdkaaGreat.St
end

section
namespace Go.Proofs.YtmgldhlcapjdkaaGreat.St
open Go.Rmp Go.Proofs.YtmgldhlcapjdkaaGreat.Ir
set_option maxRecDepth 10000
set_option maxHeartbeats 8000000
open Go.Sort (bitsLen)
theorem wrapU (x : Int) : IntKind.u64.wrap x = x % 18446744073709551616 := by
  unfold IntKind.wrap
  simp -implicitDefEqProofs only [IntKind.signed, IntKind.bits]
  simp
theorem u_shl13 (r : UInt64) : IntKind.u64.wrap ((r.toNat : Int) * 2 ^ (min (13 : Int).toNat IntKind.u64.bits)) = ((r <<< 13).toNat : Int) := by
  rw [wrapU, UInt64.toNat_shiftLeft, Nat.shiftLeft_eq]
  show (r.toNat : Int) * 8192 % _ = ((r.toNat * 8192 % 18446744073709551616 : Nat) : Int)
  omega
theorem u_shl17 (r : UInt64) : IntKind.u64.wrap ((r.toNat : Int) * 2 ^ (min (17 : Int).toNat IntKind.u64.bits)) = ((r <<< 17).toNat : Int) := by
  rw [wrapU, UInt64.toNat_shiftLeft, Nat.shiftLeft_eq]
  show (r.toNat : Int) * 131072 % _ = ((r.toNat * 131072 % 18446744073709551616 : Nat) : Int)
  omega
theorem u_shr7 (r : UInt64) : (r.toNat : Int).fdiv (2 ^ (min (7 : Int).toNat IntKind.u64.bits)) = ((r >>> 7).toNat : Int) := by
  rw [UInt64.toNat_shiftRight, Nat.shiftRight_eq_div_pow]
  show (r.toNat : Int).fdiv 128 = ((r.toNat / 128 : Nat) : Int)
  rw [Int.fdiv_eq_ediv_of_nonneg _ (by decide)]; omega
theorem u_bv (r : UInt64) : BitVec.ofInt IntKind.u64.bits (r.toNat : Int) = r.toBitVec := by
  apply BitVec.eq_of_toNat_eq
  rw [BitVec.toNat_ofInt]
  have := r.toNat_lt
  show ((r.toNat : Int) % 18446744073709551616).toNat = r.toNat
  omega
theorem u_xor (r s : UInt64) : IntKind.u64.wrap ((BitVec.ofInt IntKind.u64.bits (r.toNat : Int) ^^^ BitVec.ofInt IntKind.u64.bits (s.toNat : Int)).toNat : Int) = ((r ^^^ s).toNat : Int) := by
  refine Eq.trans ?_ (wrapu (r ^^^ s).toNat_lt)
  rw [u_bv, u_bv]
  rfl
theorem u_and (r : UInt64) (k : Nat) (hk : k < 18446744073709551616) : IntKind.u64.wrap ((BitVec.ofInt IntKind.u64.bits (r.toNat : Int) &&& BitVec.ofInt IntKind.u64.bits (k : Int)).toNat : Int) = ((r.toNat &&& k : Nat) : Int) := by
  have h : (BitVec.ofInt IntKind.u64.bits (r.toNat : Int) &&& BitVec.ofInt IntKind.u64.bits (k : Int)).toNat = r.toNat &&& k := by
    rw [BitVec.toNat_and, BitVec.toNat_ofInt, BitVec.toNat_ofInt]
    have := r.toNat_lt
    have e1 : ((r.toNat : Int) % ((2 ^ IntKind.u64.bits : Nat) : Int)).toNat = r.toNat := by
      show ((r.toNat : Int) % 18446744073709551616).toNat = r.toNat
      omega
    have e2 : ((k : Int) % ((2 ^ IntKind.u64.bits : Nat) : Int)).toNat = k := by
      show ((k : Int) % 18446744073709551616).toNat = k
      omega
    rw [e1, e2]
  rw [h]
  exact wrapu (Nat.lt_of_le_of_lt Nat.and_le_right hk)
theorem xor98 (p : Nat) (r : UInt64) (H : Heap) (hp : H[p]? = some (.cells [.int .u64 r.toNat])) :
    W env (.call 177 [.ptr p 0]) H (fun o H' => o = .val (.int .u64 (Go.Sort.xorNext r).toNat) ∧ H'[p]? = some (.cells [.int .u64 (Go.Sort.xorNext r).toNat]) ∧ Frm (fun x => x = p) H H') := by
  refine W.fnI rfl rfl rfl ?_
  have lp := glt hp
  have n13 : ¬ ((13 : Int) < 0) := by decide
  have n7 : ¬ ((7 : Int) < 0) := by decide
  have n17 : ¬ ((17 : Int) < 0) := by decide
  simp -implicitDefEqProofs only [u_shl13, u_shl17, u_shr7, u_xor, ir177, op, ef, cl, sq, reduceIte, j2, j3, j4, j5, j6, j7, j8, j9, y1, S1, hp, lp, S2, n13, n7, n17]
  exact ⟨rfl, rfl, (((Frm.refl (fun x => x = p) _).set (.inl rfl) _).set (.inl rfl) _).set (.inl rfl) _⟩
theorem two_bits {n : Nat} (h : n ≠ 0) : 1 <<< bitsLen n ≤ 2 * n := by
  rw [Nat.one_shiftLeft, bitsLen, if_neg h, Nat.pow_succ]
  have := Nat.log2_self_le h
  omega
theorem wSu {a : Nat} (h : 1 ≤ a ∧ a < 18446744073709551616) : IntKind.u64.wrap ((a : Int) - 1) = ((a - 1 : Nat) : Int) := by rw [wrapu64 (by omega)]; omega
theorem wN {a : Nat} (h : a < 9223372036854775808) : IntKind.i64.wrap (a : Int) = (a : Int) := wrap64 (by omega)
end Go.Proofs.YtmgldhlcapjdkaaGreat.St
end

section

end

section

end

section

end

section

end

section
namespace Go.Proofs.YtmgldhlcapjdkaaGreat.St
open Go.Rmp Go.Proofs.YtmgldhlcapjdkaaGreat.Ir
set_option maxRecDepth 10000
set_option maxHeartbeats 8000000
def bkOf : C → Nat → Option C
  | .block id a, n => if id = n then some a else bkOf a n
  | .seq a b, n => match bkOf a n with | some c => some c | .none => bkOf b n
  | .cond _ a b, n => match bkOf a n with | some c => some c | .none => bkOf b n
  | .loop a, n => bkOf a n
  | _, _ => .none
def seqN : C → Nat → C
  | .seq a _, 0 => a
  | .seq _ b, k + 1 => seqN b k
  | c, _ => c
end Go.Proofs.YtmgldhlcapjdkaaGreat.St
end

section
namespace Go.Proofs.YtmgldhlcapjdkaaGreat.St
open Go.Rmp Go.Proofs.YtmgldhlcapjdkaaGreat.Ir
set_option maxRecDepth 10000
set_option maxHeartbeats 8000000
def seqT : C → Nat → C
  | c, 0 => c
  | .seq _ b, k + 1 => seqT b k
  | c, _ => c
theorem wQ8 {a : Nat} (h : a < 9223372036854775808) : IntKind.i64.wrap ((a : Int).tdiv 8) = ((a / 8 : Nat) : Int) := by rw [Int.tdiv_eq_ediv_of_nonneg (by omega), wrap64 (by omega)]; omega
end Go.Proofs.YtmgldhlcapjdkaaGreat.St
end

section

end

section

end

section

end

section
namespace Go.Proofs.YtmgldhlcapjdkaaGreat.St
open Go.Rmp Go.Proofs.YtmgldhlcapjdkaaGreat.Ir
set_option maxRecDepth 10000
theorem mem_keys {α β : Type} [DecidableEq α] {es : List (α × β)} {k : α} : k ∈ es.map (·.1) ↔ (mlook es k).isSome = true := by
  cases h : mlook es k with
  | none => simp [mlook_none.1 h]
  | some v =>
    simp -implicitDefEqProofs only [Option.isSome_some, iff_true]
    exact List.mem_map.2 ⟨_, mlook_mem h, rfl⟩
theorem len_eq {α : Type} {l l' : List α} (h1 : l.Nodup) (h2 : l'.Nodup) (h : ∀ x, x ∈ l ↔ x ∈ l') : l.length = l'.length := ((List.perm_ext_iff_of_nodup h1 h2).2 h).length_eq
def tA : ByteArray := ⟨#[97]⟩
def tB : ByteArray := ⟨#[98]⟩
def tX : ByteArray := ⟨#[120]⟩
def tY : ByteArray := ⟨#[121]⟩
def tZ : ByteArray := ⟨#[122]⟩
end Go.Proofs.YtmgldhlcapjdkaaGreat.St
end

section
namespace Go.Proofs.YtmgldhlcapjdkaaGreat.St
open Go.Rmp Go.Proofs.YtmgldhlcapjdkaaGreat.Ir
set_option maxRecDepth 10000
abbrev l1 : List (ByteArray × ByteArray) := [(tA, tX), (tB, tY)]
abbrev l2 : List (ByteArray × ByteArray) := [(tA, tZ)]
end Go.Proofs.YtmgldhlcapjdkaaGreat.St
end

section
namespace Go.Proofs.YtmgldhlcapjdkaaGreat.St
open Go.Rmp Go.Proofs.YtmgldhlcapjdkaaGreat.Ir
set_option maxRecDepth 10000
theorem SH.ext {H H' : Heap} {b : Bk} {s : Sto} {F : Nat → Prop} (h : SH H b s F) (hx : Ext H H') : SH H' b s F := by
  obtain ⟨im, pm, sa⟩ := h
  exact ⟨im, pm, sa.frm (ext_frm (F := fun _ => False) hx) (fun _ _ _ h => h)⟩
end Go.Proofs.YtmgldhlcapjdkaaGreat.St
end

section

end

section

end

section

end

section
namespace Go.Proofs.YtmgldhlcapjdkaaGreat.St
open Go.Rmp Go.Proofs.YtmgldhlcapjdkaaGreat.Ir
set_option maxRecDepth 10000
def SrtS (c : Nat) (d' : Array ByteArray) (H : Heap) : Out → Heap → Prop := fun o H' => o = .val (.tup []) ∧ H'[c]? = some (.cells (msC eS d'.toList)) ∧ Frm (fun x => x = c) H H'
theorem swp_setS {Hx : Heap} {c : Nat} (d : Array ByteArray) {i j : Nat} (hi : i < d.size) (hj : j < d.size) :
    stcB Hx c [.str d[j]!] (i * 1) (some (.cells (msC eS d.toList))) = some (Hx.set c (.cells (msC eS (d.toList.set i d[j]!)))) ∧
    ∀ Hy, stcB Hy c [.str d[i]!] (j * 1) (some (.cells (msC eS (d.toList.set i d[j]!)))) = some (Hy.set c (.cells (msC eS (Go.Sort.swp d i j).toList))) := by
  have g1 := msC_set (enc := eS) (n := 1) (y := d[j]!) (fun _ => rfl) (arr_get hi) Hx c (eS d[j]!) 0 (by simp [eS]) (by simp [eS])
  obtain ⟨z, hz⟩ := getP (l := d.toList.set i d[j]!) (i := j) (by simpa using hj)
  have g2 := fun Hy => msC_set (enc := eS) (n := 1) (y := d[i]!) (fun _ => rfl) hz Hy c (eS d[i]!) 0 (by simp [eS]) (by simp [eS])
  refine ⟨by simpa [eS] using g1, fun Hy => ?_⟩
  rw [swp_list]
  simpa [eS] using g2 Hy
theorem ld_atS {d : Array ByteArray} {i : Nat} (h : i < d.size) : ldcB 1 (i * 1) (some (.cells (msC eS d.toList))) = some [.str d[i]!] := by
  have := msC_get (enc := eS) (n := 1) (fun _ => rfl) (arr_get h) 0 1 (by decide)
  simpa [eS] using this
open Go.Sort in
theorem ins85 (c : Nat) (d : Array ByteArray) (a b : Nat) (H : Heap) (hc : H[c]? = some (.cells (msC eS d.toList))) (hb : b ≤ d.size) (hab : a ≤ b) (hs : d.size < 4611686018427387903) :
    W env (.call 198 [.msl c 0 d.size 1, .int .i64 a, .int .i64 b]) H (SrtS c (insertionSort strLt d a b) H) := by
  refine W.fnI rfl rfl rfl ?_
  have wa := wrap_succ (show a < 9223372036854775807 by omega)
  simp -implicitDefEqProofs only [ir198, op, ef, cl, sq, reduceIte, j2, j3, j4, j5, j6, j7, j8, j9, y1, S1, wa]
  refine W.loopI (fun (i : Nat) R H' => At H' (fun H' => ∃ di : Array ByteArray, H'[c]? = some (.cells (msC eS di.toList)) ∧ di.size = d.size ∧ insOuter strLt a b i di = insertionSort strLt d a b ∧ Frm (fun x => x = c) H H') ∧ R 0 = .msl c 0 d.size 1 ∧ R 1 = .int .i64 a ∧ R 2 = .int .i64 b ∧ R 6 = .int .i64 i ∧ a + 1 ≤ i) (fun i => b - i) (a + 1) ⟨.i ⟨d, hc, rfl, rfl, Frm.refl _ _⟩, rfl, rfl, rfl, rfl, Nat.le_refl _⟩ ?_
  rintro i R H1 ⟨⟨di, hd, hsz, hins, hfr⟩, h0, h1, h2, h6, hia⟩
  by_cases hlt : i < b
  · have wi := wrap_succ (show i < 9223372036854775807 by omega)
    simp -implicitDefEqProofs only [op, ef, cl, sq, reduceIte, j2, j3, j4, j5, j6, j7, j8, j9, y1, S1, h0, h1, h2, h6, hlt]
    refine W.loopE 2 (fun (j : Nat) R H' => At H' (fun H' => ∃ dj : Array ByteArray, H'[c]? = some (.cells (msC eS dj.toList)) ∧ dj.size = d.size ∧ insInner strLt a j dj = insInner strLt a i di ∧ Frm (fun x => x = c) H H') ∧ R 0 = .msl c 0 d.size 1 ∧ R 1 = .int .i64 a ∧ R 2 = .int .i64 b ∧ R 6 = .int .i64 i ∧ R 7 = .int .i64 j ∧ j ≤ i) (fun j => j) i
      (fun R H' => At H' (fun H' => ∃ dj : Array ByteArray, H'[c]? = some (.cells (msC eS dj.toList)) ∧ dj.size = d.size ∧ dj = insInner strLt a i di ∧ Frm (fun x => x = c) H H') ∧ R 0 = .msl c 0 d.size 1 ∧ R 1 = .int .i64 a ∧ R 2 = .int .i64 b ∧ R 6 = .int .i64 i) ?_ ?_ ?_
    · refine ⟨.i ⟨di, hd, hsz, rfl, hfr⟩, ?_, ?_, ?_, ?_, ?_, Nat.le_refl _⟩
      all_goals (simp -implicitDefEqProofs only [op, ef, cl, sq, reduceIte, j2, j3, j4, j5, j6, j7, j8, j9, y1, S1, h0, h1, h2, h6])
    · rintro j R H2 ⟨⟨dj, hd2, hsz2, hinn, hfr2⟩, q0, q1, q2, q6, q7, hji⟩
      by_cases hja : a < j
      · obtain ⟨j', rfl⟩ : ∃ j', j = j' + 1 := ⟨j - 1, by omega⟩
        have wp : IntKind.i64.wrap (((j' + 1 : Nat) : Int) - 1) = (j' : Int) := by rw [wrap64 (by omega)]; omega
        have j1 : j' + 1 < d.size := by omega
        have j0 : j' < d.size := by omega
        have i1 : iadT 1 (j' + 1) (.msl c 0 d.size 1) = some (.ptr c ((j' + 1) * 1)) := by rw [iad_m]; simp [j1]
        have i0 : iadT 1 j' (.msl c 0 d.size 1) = some (.ptr c (j' * 1)) := by rw [iad_m]; simp [j0]
        have v1 := ld_atS (d := dj) (i := j' + 1) (by omega)
        have v0 := ld_atS (d := dj) (i := j') (by omega)
        simp -implicitDefEqProofs only [op, ef, cl, sq, reduceIte, j2, j3, j4, j5, j6, j7, j8, j9, y1, S1, q0, q1, q2, q6, q7, hja, natOf_nat, i1, i0, wp, hd2, v1, v0]
        refine callB_of _ _ _ _ _ _ _ _ (less91 dj[j' + 1]! dj[j']! _) ?_
        rintro u H3 ⟨hu, rfl⟩
        cases hu
        have hd3 := hd2
        obtain ⟨s1, s2⟩ := swp_setS (Hx := H3) (c := c) dj (i := j' + 1) (j := j') (by omega) (by omega)
        cases hc0 : strLt dj[j' + 1]! dj[j']! with
        | true =>
          simp -implicitDefEqProofs only [op, ef, cl, sq, reduceIte, j2, j3, j4, j5, j6, j7, j8, j9, y1, S1, q0, q1, q2, q6, q7, natOf_nat, i1, i0, wp, hd3, v1, v0, s1, S2, s2, glt hd3]
          exact ⟨j', by omega, .i ⟨swp dj (j' + 1) j', g_eq (by rw [List.length_set]; exact glt hd3), by rw [swp_size]; exact hsz2, by rw [← hinn]; conv => { rhs; rw [insInner, if_pos (by simp -implicitDefEqProofs only [Bool.and_eq_true, decide_eq_true_eq]; exact ⟨hja, hc0⟩)] }, (hfr2.set (.inl rfl) _).set (.inl rfl) _⟩, rfl, by omega⟩
        | false =>
          simp -implicitDefEqProofs only [op, ef, cl, sq, reduceIte, j2, j3, j4, j5, j6, j7, j8, j9, y1, S1, q0, q1, q2, q6, q7]
          exact .i ⟨dj, hd3, hsz2, by rw [← hinn, insInner]; simp [hc0], hfr2⟩
      · simp -implicitDefEqProofs only [op, ef, cl, sq, reduceIte, j2, j3, j4, j5, j6, j7, j8, j9, y1, S1, q0, q1, q2, q6, q7, hja]
        refine .i ⟨dj, hd2, hsz2, ?_, hfr2⟩
        rw [← hinn]
        cases j with
        | zero => rfl
        | succ j => rw [insInner, if_neg (by simp -implicitDefEqProofs only [Bool.and_eq_true, decide_eq_true_eq]; omega)]
    · rintro R H2 ⟨⟨dj, hd2, hsz2, hinn, hfr2⟩, q0, q1, q2, q6⟩
      simp -implicitDefEqProofs only [op, ef, cl, sq, reduceIte, j2, j3, j4, j5, j6, j7, j8, j9, y1, S1, q0, q1, q2, q6, wi]
      refine ⟨i + 1, by omega, .i ⟨dj, hd2, hsz2, ?_, hfr2⟩, rfl, by omega⟩
      rw [← hins, hinn]
      conv => rhs; rw [insOuter, if_pos hlt]
  · simp -implicitDefEqProofs only [op, ef, cl, sq, reduceIte, j2, j3, j4, j5, j6, j7, j8, j9, y1, S1, h0, h1, h2, h6, hlt]
    rw [insOuter, if_neg hlt] at hins
    subst hins
    exact ⟨rfl, hd, hfr⟩
theorem strLt_swo : Go.Sort.SWO strLt where
  irrefl := lt_irr
  trans _ _ _ h1 h2 := lt_trans' h1 h2
  ntrans x y z h1 h2 := by
    cases h : strLt x z with
    | false => rfl
    | true =>
      cases h3 : strLt y x with
      | true => rw [lt_trans' h3 h] at h2; cases h2
      | false => have := lt_tri h1 h3; subst this; rw [h] at h2; cases h2
end Go.Proofs.YtmgldhlcapjdkaaGreat.St
end

section
namespace Go.Proofs.YtmgldhlcapjdkaaGreat.St
open Go.Rmp Go.Proofs.YtmgldhlcapjdkaaGreat.Ir
set_option maxRecDepth 10000
set_option maxHeartbeats 8000000
section
variable {c n i j : Nat} {d : Array ByteArray}
theorem iadmO (h : i < n) : iadT 1 i (.msl c 0 n 1) = some (.ptr c (i * 1)) := by rw [iad_m]; simp [h]
theorem len_msO {l : List ByteArray} : (msC eS l).length = l.length * 1 := by rw [msC_len (n := 1) (fun _ => rfl)]
theorem ldm1O (h : i < d.size) : (i * 1 + 1 ≤ (msC eS d.toList).length) = True := by rw [len_msO]; simp; omega
theorem ldm2O (h : i < d.size) : List.take 1 (List.drop (i * 1) (msC eS d.toList)) = [.str d[i]!] := by
  have := ld_atS h
  rw [ldcB_c, if_pos (by rw [len_msO]; simp; omega)] at this
  exact Option.some.inj this
theorem stm0O {x : ByteArray} (h : i < d.size) : (i * 1 + 1 ≤ (msC eS (d.toList.set j x)).length) = True := by rw [len_msO]; simp; omega
theorem stm1O (h : i < d.size) (h' : j < d.size) : (List.take (i * 1) (msC eS d.toList) ++ [.str d[j]!]) ++ List.drop (i * 1 + 1) (msC eS d.toList) = msC eS (d.toList.set i d[j]!) := by
  have := (swp_setS (Hx := [.cells []]) (c := 0) d h h').1
  rw [stcB_c, if_pos (by rw [len_msO]; simp; omega)] at this
  simpa using this
theorem stm2O (h : i < d.size) (h' : j < d.size) : (List.take (j * 1) (msC eS (d.toList.set i d[j]!)) ++ [.str d[i]!]) ++ List.drop (j * 1 + 1) (msC eS (d.toList.set i d[j]!)) = msC eS (Go.Sort.swp d i j).toList := by
  have := (swp_setS (Hx := [.cells []]) (c := 0) d h h').2 [.cells []]
  rw [stcB_c, if_pos (by rw [len_msO]; simp; omega)] at this
  simpa using this
end
open Go.Sort in
def SCO (c n : Nat) (H : Heap) (P : Array ByteArray → Prop) (H' : Heap) : Prop := ∃ d : Array ByteArray, H'[c]? = some (.cells (msC eS d.toList)) ∧ d.size = n ∧ P d ∧ Frm (fun x => x = c) H H'
open Go.Sort in
theorem SCO.swp {c n : Nat} {H H1 : Heap} {P : Array ByteArray → Prop} {y x : B} {d' : Array ByteArray} (hd : H1[c]? = some y) (hs : d'.size = n) (hP : P d') (hf : Frm (fun x => x = c) H H1) : SCO c n H P ((H1.set c x).set c (.cells (msC eS d'.toList))) :=
  ⟨d', g_eq (by rw [List.length_set]; exact glt hd), hs, hP, (hf.set (.inl rfl) _).set (.inl rfl) _⟩
open Go.Sort in
def SrtNO (c n : Nat) (d' : Array ByteArray) (H : Heap) : Out → Heap → Prop := fun o H' => o = .val (.tup []) ∧ SCO c n H (fun x => x = d') H'
open Go.Sort in
theorem rev89 (c n : Nat) (d : Array ByteArray) (a b : Nat) (H : Heap) (hn : d.size = n) (hc : H[c]? = some (.cells (msC eS d.toList))) (hb : b ≤ n) (hab : a < b) (hs : n < 4611686018427387903) :
    W env (.call 202 [.msl c 0 n 1, .int .i64 a, .int .i64 b]) H (SrtNO c n (reverseRange d a b) H) := by
  refine W.fnI rfl rfl rfl ?_
  simp -implicitDefEqProofs (maxSteps := 1000000) (disch := omega) only [ir202, op, ef, cl, sq, reduceIte, j2, j3, j4, j5, j6, j7, j8, j9, y1, S1, wS1]
  refine W.loopI (fun (i : Nat) R H' => At H' (fun H' => ∃ j, R 7 = .int .i64 (j : Nat) ∧ i + j = a + b - 1 ∧ a ≤ i ∧ SCO c n H (fun di => reverseLoop i j di = reverseRange d a b) H') ∧ R 0 = .msl c 0 n 1 ∧ R 6 = .int .i64 i) (fun i => a + b - i) a ⟨.i ⟨b - 1, rfl, by omega, Nat.le_refl _, d, hc, hn, rfl, Frm.refl _ _⟩, rfl, rfl⟩ ?_
  rintro i R H1 ⟨⟨j, h9, hij, hai, di, hd, hsz, hrev, hfr⟩, h0, h8⟩
  have lc := glt hd
  by_cases hlt : i < j
  · simp -implicitDefEqProofs (maxSteps := 1000000) (disch := omega) only [natOf_nat, iadmO, ldm1O, ldm2O, stm0O, stm1O, stm2O, wA, wA1, wS, wS1, wM, S2, op, ef, cl, sq, reduceIte, j2, j3, j4, j5, j6, j7, j8, j9, y1, S1, h0, h8, h9, hlt, hd, lc]
    exact ⟨i + 1, by omega, .i ⟨j - 1, rfl, by omega, by omega, .swp hd (by rw [swp_size]; exact hsz) (by rw [← hrev]; conv => { rhs; rw [reverseLoop, if_pos hlt] }) hfr⟩, rfl⟩
  · simp -implicitDefEqProofs only [op, ef, cl, sq, reduceIte, j2, j3, j4, j5, j6, j7, j8, j9, y1, S1, h0, h8, h9, hlt]
    rw [reverseLoop, if_neg hlt] at hrev
    exact ⟨rfl, di, hd, hsz, hrev, hfr⟩
open Go.Sort in
theorem sift101 (c n : Nat) (d : Array ByteArray) (lo hi first : Nat) (H : Heap) (hn : d.size = n) (hc : H[c]? = some (.cells (msC eS d.toList))) (hb : first + hi ≤ n) (hlo : lo ≤ n) (hs : n < 2305843009213693951) :
    W env (.call 210 [.msl c 0 n 1, .int .i64 lo, .int .i64 hi, .int .i64 first]) H (SrtNO c n (siftDown strLt hi first lo d) H) := by
  refine W.fnI rfl rfl rfl ?_
  simp -implicitDefEqProofs only [ir210, op, ef, cl, sq, reduceIte, j2, j3, j4, j5, j6, j7, j8, j9, y1, S1]
  refine W.loopI (fun (r : Nat) R H' => At H' (fun H' => SCO c n H (fun di => siftDown strLt hi first r di = siftDown strLt hi first lo d) H') ∧ R 0 = .msl c 0 n 1 ∧ R 2 = .int .i64 hi ∧ R 3 = .int .i64 first ∧ R 0 = .msl c 0 n 1 ∧ R 8 = .int .i64 r ∧ r ≤ n) (fun r => hi - r) lo ⟨.i ⟨d, hc, hn, rfl, Frm.refl _ _⟩, rfl, rfl, rfl, rfl, rfl, hlo⟩ ?_
  rintro r R H1 ⟨⟨di, hd, hsz, hP, hfr⟩, h0, h2, h3, h4, h10, hr⟩
  have lc := glt hd
  by_cases hge : 2 * r + 1 ≥ hi
  · simp -implicitDefEqProofs (maxSteps := 1000000) (disch := omega) only [natOf_nat, iadmO, ldm1O, ldm2O, stm0O, stm1O, stm2O, wA, wA1, wS, wS1, wM, S2, op, ef, cl, sq, reduceIte, j2, j3, j4, j5, j6, j7, j8, j9, y1, S1, h0, h2, h3, h4, h10, hge]
    rw [siftDown, dif_pos hge] at hP
    exact ⟨rfl, di, hd, hsz, hP, hfr⟩
  by_cases h2hi : 2 * r + 1 + 1 < hi
  · simp -implicitDefEqProofs (maxSteps := 1000000) (disch := omega) only [natOf_nat, iadmO, ldm1O, ldm2O, stm0O, stm1O, stm2O, wA, wA1, wS, wS1, wM, S2, op, ef, cl, sq, reduceIte, j2, j3, j4, j5, j6, j7, j8, j9, y1, S1, h0, h2, h3, h4, h10, hge, h2hi, hd, lc]
    refine callB_of _ _ _ _ _ _ _ _ (less91 di[first + (2 * r + 1)]! di[first + (2 * r + 1) + 1]! _) ?_
    rintro u H2 ⟨hu, hx0⟩
    cases hu
    have hx : Ext H1 H2 := by rw [hx0]; exact Ext.rfl'
    have hd := hx.get hd
    have lc := glt hd
    have hfr := hfr.trans (ext_frm (F := fun _ => False) hx) (fun _ h => h.elim)
    have lt1 : strLt di[first + (2 * r + 1)]! di[first + (2 * r + 1) + 1]! = decide (strLt di[first + (2 * r + 1)]! di[first + (2 * r + 1) + 1]! = true) := by simp
    by_cases c1 : strLt di[first + (2 * r + 1)]! di[first + (2 * r + 1) + 1]! = true
    · simp -implicitDefEqProofs (maxSteps := 1000000) (disch := omega) only [natOf_nat, iadmO, ldm1O, ldm2O, stm0O, stm1O, stm2O, wA, wA1, wS, wS1, wM, S2, op, ef, cl, sq, reduceIte, j2, j3, j4, j5, j6, j7, j8, j9, y1, S1, h0, h2, h3, h4, h10, hge, h2hi, hd, lc, c1]
      refine callB_of _ _ _ _ _ _ _ _ (less91 di[first + r]! di[first + (2 * r + 1 + 1)]! _) ?_
      rintro u H3 ⟨hu, hx0⟩
      cases hu
      have hx : Ext H2 H3 := by rw [hx0]; exact Ext.rfl'
      have hd := hx.get hd
      have lc := glt hd
      have hfr := hfr.trans (ext_frm (F := fun _ => False) hx) (fun _ h => h.elim)
      have lt2 : strLt di[first + r]! di[first + (2 * r + 1 + 1)]! = decide (strLt di[first + r]! di[first + (2 * r + 1 + 1)]! = true) := by simp
      by_cases c2 : strLt di[first + r]! di[first + (2 * r + 1 + 1)]! = true
      · simp -implicitDefEqProofs (maxSteps := 1000000) (disch := omega) only [natOf_nat, iadmO, ldm1O, ldm2O, stm0O, stm1O, stm2O, wA, wA1, wS, wS1, wM, S2, op, ef, cl, sq, reduceIte, j2, j3, j4, j5, j6, j7, j8, j9, y1, S1, h0, h2, h3, h4, h10, hge, h2hi, hd, lc, c2]
        refine ⟨2 * r + 1 + 1, by omega, .i (.swp hd (by rw [swp_size]; exact hsz) ?_ hfr), rfl, by omega⟩
        rw [← hP]
        conv => { rhs; rw [siftDown, dif_neg hge, if_pos (and_t (dect h2hi) (lt1.trans (dect c1))), if_neg (not_t (lt2.trans (dect c2))), dif_pos h2hi] }
      · simp -implicitDefEqProofs (maxSteps := 1000000) (disch := omega) only [natOf_nat, iadmO, ldm1O, ldm2O, stm0O, stm1O, stm2O, wA, wA1, wS, wS1, wM, S2, op, ef, cl, sq, reduceIte, j2, j3, j4, j5, j6, j7, j8, j9, y1, S1, h0, h2, h3, h4, h10, hge, h2hi, hd, lc, c2]
        rw [siftDown, dif_neg hge, if_pos (and_t (dect h2hi) (lt1.trans (dect c1))), if_pos (not_f (lt2.trans (decf c2)))] at hP
        exact ⟨rfl, di, hd, hsz, hP, hfr⟩
    · simp -implicitDefEqProofs (maxSteps := 1000000) (disch := omega) only [natOf_nat, iadmO, ldm1O, ldm2O, stm0O, stm1O, stm2O, wA, wA1, wS, wS1, wM, S2, op, ef, cl, sq, reduceIte, j2, j3, j4, j5, j6, j7, j8, j9, y1, S1, h0, h2, h3, h4, h10, hge, h2hi, hd, lc, c1]
      refine callB_of _ _ _ _ _ _ _ _ (less91 di[first + r]! di[first + (2 * r + 1)]! _) ?_
      rintro u H3 ⟨hu, hx0⟩
      cases hu
      have hx : Ext H2 H3 := by rw [hx0]; exact Ext.rfl'
      have hd := hx.get hd
      have lc := glt hd
      have hfr := hfr.trans (ext_frm (F := fun _ => False) hx) (fun _ h => h.elim)
      have lt2 : strLt di[first + r]! di[first + (2 * r + 1)]! = decide (strLt di[first + r]! di[first + (2 * r + 1)]! = true) := by simp
      by_cases c2 : strLt di[first + r]! di[first + (2 * r + 1)]! = true
      · simp -implicitDefEqProofs (maxSteps := 1000000) (disch := omega) only [natOf_nat, iadmO, ldm1O, ldm2O, stm0O, stm1O, stm2O, wA, wA1, wS, wS1, wM, S2, op, ef, cl, sq, reduceIte, j2, j3, j4, j5, j6, j7, j8, j9, y1, S1, h0, h2, h3, h4, h10, hge, h2hi, hd, lc, c2]
        refine ⟨2 * r + 1, by omega, .i (.swp hd (by rw [swp_size]; exact hsz) ?_ hfr), rfl, by omega⟩
        rw [← hP]
        conv => { rhs; rw [siftDown, dif_neg hge, if_neg (and_f2 (lt1.trans (decf c1))), if_neg (not_t (lt2.trans (dect c2)))] }
      · simp -implicitDefEqProofs (maxSteps := 1000000) (disch := omega) only [natOf_nat, iadmO, ldm1O, ldm2O, stm0O, stm1O, stm2O, wA, wA1, wS, wS1, wM, S2, op, ef, cl, sq, reduceIte, j2, j3, j4, j5, j6, j7, j8, j9, y1, S1, h0, h2, h3, h4, h10, hge, h2hi, hd, lc, c2]
        rw [siftDown, dif_neg hge, if_neg (and_f2 (lt1.trans (decf c1))), if_pos (not_f (lt2.trans (decf c2)))] at hP
        exact ⟨rfl, di, hd, hsz, hP, hfr⟩
  · simp -implicitDefEqProofs (maxSteps := 1000000) (disch := omega) only [natOf_nat, iadmO, ldm1O, ldm2O, stm0O, stm1O, stm2O, wA, wA1, wS, wS1, wM, S2, op, ef, cl, sq, reduceIte, j2, j3, j4, j5, j6, j7, j8, j9, y1, S1, h0, h2, h3, h4, h10, hge, h2hi, hd, lc]
    try simp -implicitDefEqProofs only [op, ef, cl, sq, reduceIte, j2, j3, j4, j5, j6, j7, j8, j9, y1, S1]
    try simp -implicitDefEqProofs (maxSteps := 1000000) (disch := omega) only [natOf_nat, iadmO, ldm1O, ldm2O, stm0O, stm1O, stm2O, wA, wA1, wS, wS1, wM, S2, op, ef, cl, sq, reduceIte, j2, j3, j4, j5, j6, j7, j8, j9, y1, S1, h0, h2, h3, h4, h10, hge, h2hi, hd, lc]
    refine callB_of _ _ _ _ _ _ _ _ (less91 di[first + r]! di[first + (2 * r + 1)]! _) ?_
    rintro u H3 ⟨hu, hx0⟩
    cases hu
    have hx : Ext H1 H3 := by rw [hx0]; exact Ext.rfl'
    have hd := hx.get hd
    have lc := glt hd
    have hfr := hfr.trans (ext_frm (F := fun _ => False) hx) (fun _ h => h.elim)
    have lt2 : strLt di[first + r]! di[first + (2 * r + 1)]! = decide (strLt di[first + r]! di[first + (2 * r + 1)]! = true) := by simp
    by_cases c2 : strLt di[first + r]! di[first + (2 * r + 1)]! = true
    · simp -implicitDefEqProofs (maxSteps := 1000000) (disch := omega) only [natOf_nat, iadmO, ldm1O, ldm2O, stm0O, stm1O, stm2O, wA, wA1, wS, wS1, wM, S2, op, ef, cl, sq, reduceIte, j2, j3, j4, j5, j6, j7, j8, j9, y1, S1, h0, h2, h3, h4, h10, hge, h2hi, hd, lc, c2]
      refine ⟨2 * r + 1, by omega, .i (.swp hd (by rw [swp_size]; exact hsz) ?_ hfr), rfl, by omega⟩
      rw [← hP]
      conv => { rhs; rw [siftDown, dif_neg hge, if_neg (and_f1 (decf h2hi)), if_neg (not_t (lt2.trans (dect c2)))] }
    · simp -implicitDefEqProofs (maxSteps := 1000000) (disch := omega) only [natOf_nat, iadmO, ldm1O, ldm2O, stm0O, stm1O, stm2O, wA, wA1, wS, wS1, wM, S2, op, ef, cl, sq, reduceIte, j2, j3, j4, j5, j6, j7, j8, j9, y1, S1, h0, h2, h3, h4, h10, hge, h2hi, hd, lc, c2]
      rw [siftDown, dif_neg hge, if_neg (and_f1 (decf h2hi)), if_pos (not_f (lt2.trans (decf c2)))] at hP
      exact ⟨rfl, di, hd, hsz, hP, hfr⟩
open Go.Sort in
theorem heap86 (c n : Nat) (d : Array ByteArray) (a b : Nat) (H : Heap) (hn : d.size = n) (hc : H[c]? = some (.cells (msC eS d.toList))) (hb : b ≤ n) (hab : a < b) (hs : n < 2305843009213693951) :
    W env (.call 199 [.msl c 0 n 1, .int .i64 a, .int .i64 b]) H (SrtNO c n (heapSort strLt d a b) H) := by
  refine W.fnI rfl rfl rfl ?_
  simp -implicitDefEqProofs (maxSteps := 1000000) (disch := omega) only [ir199, natOf_nat, iadmO, ldm1O, ldm2O, stm0O, stm1O, stm2O, wA, wA1, wS, wS1, wM, S2, op, ef, cl, sq, reduceIte, j2, j3, j4, j5, j6, j7, j8, j9, y1, S1, wQ2]
  refine W.loopE 0 (fun (k : Nat) R H' => At H' (fun H' => SCO c n H (fun di => heapBuild strLt (b - a) a k di = heapBuild strLt (b - a) a ((b - a - 1) / 2 + 1) d) H') ∧ R 0 = .msl c 0 n 1 ∧ R 0 = .msl c 0 n 1 ∧ R 6 = .int .i64 a ∧ R 7 = .int .i64 0 ∧ R 8 = .int .i64 (b - a : Nat) ∧ R 9 = .int .i64 ((k : Int) - 1) ∧ k ≤ b - a) (fun k => k) ((b - a - 1) / 2 + 1)
    (fun R H' => At H' (fun H' => SCO c n H (fun di => di = heapBuild strLt (b - a) a ((b - a - 1) / 2 + 1) d) H') ∧ R 0 = .msl c 0 n 1 ∧ R 0 = .msl c 0 n 1 ∧ R 6 = .int .i64 a ∧ R 7 = .int .i64 0 ∧ R 8 = .int .i64 (b - a : Nat))
    ⟨.i ⟨d, hc, hn, rfl, Frm.refl _ _⟩, rfl, rfl, rfl, rfl, rfl, by simp [upd], by omega⟩ ?_ ?_
  · rintro k R H1 ⟨⟨di, hd, hsz, hP, hfr⟩, h0, h3, h8, h9, h10, h11, hk⟩
    cases k with
    | zero =>
      rw [show (((0 : Nat) : Int) - 1) = -1 from rfl] at h11
      simp -implicitDefEqProofs (maxSteps := 1000000) (disch := omega) only [natOf_nat, iadmO, ldm1O, ldm2O, stm0O, stm1O, stm2O, wA, wA1, wS, wS1, wM, S2, op, ef, cl, sq, reduceIte, j2, j3, j4, j5, j6, j7, j8, j9, y1, S1, h0, h3, h8, h9, h10, h11]
      exact .i ⟨di, hd, hsz, hP, hfr⟩
    | succ k =>
      rw [show (((k + 1 : Nat) : Int) - 1) = (k : Int) by omega] at h11
      simp -implicitDefEqProofs (maxSteps := 1000000) (disch := omega) only [natOf_nat, iadmO, ldm1O, ldm2O, stm0O, stm1O, stm2O, wA, wA1, wS, wS1, wM, S2, op, ef, cl, sq, reduceIte, j2, j3, j4, j5, j6, j7, j8, j9, y1, S1, h0, h3, h8, h9, h10, h11, nge0]
      refine callB_of _ _ _ _ _ _ _ _ (sift101 c n di k (b - a) a _ hsz hd (by omega) (by omega) hs) ?_
      rintro u H2 ⟨hu, d2, hd2, hs2, rfl, hf2⟩
      cases hu
      simp -implicitDefEqProofs (maxSteps := 1000000) (disch := omega) only [wS0, op, ef, cl, sq, reduceIte, j2, j3, j4, j5, j6, j7, j8, j9, y1, S1, h0, h3, h8, h9, h10, h11]
      exact ⟨k, by omega, .i ⟨_, hd2, hs2, hP, hfr.trans hf2 fun _ h => .inl h⟩, rfl, by omega⟩
  · rintro R H1 ⟨⟨di, hd, hsz, hP, hfr⟩, h0, h3, h8, h9, h10⟩
    simp -implicitDefEqProofs (maxSteps := 1000000) (disch := omega) only [natOf_nat, iadmO, ldm1O, ldm2O, stm0O, stm1O, stm2O, wA, wA1, wS, wS1, wM, S2, op, ef, cl, sq, reduceIte, j2, j3, j4, j5, j6, j7, j8, j9, y1, S1, h0, h3, h8, h9, h10]
    refine W.loopI (fun (k : Nat) R H' => At H' (fun H' => SCO c n H (fun di => heapPop strLt a k di = heapSort strLt d a b) H') ∧ R 0 = .msl c 0 n 1 ∧ R 0 = .msl c 0 n 1 ∧ R 6 = .int .i64 a ∧ R 7 = .int .i64 0 ∧ R 8 = .int .i64 (b - a : Nat) ∧ R 10 = .int .i64 ((k : Int) - 1) ∧ k ≤ b - a) (fun k => k) (b - a) ⟨.i ⟨di, hd, hsz, by rw [hP]; rfl, hfr⟩, ?_, ?_, ?_, ?_, ?_, ?_, Nat.le_refl _⟩ ?_
    · simp -implicitDefEqProofs only [op, ef, cl, sq, reduceIte, j2, j3, j4, j5, j6, j7, j8, j9, y1, S1, h0]
    · simp -implicitDefEqProofs only [op, ef, cl, sq, reduceIte, j2, j3, j4, j5, j6, j7, j8, j9, y1, S1, h3]
    · simp -implicitDefEqProofs only [op, ef, cl, sq, reduceIte, j2, j3, j4, j5, j6, j7, j8, j9, y1, S1, h8]
    · simp -implicitDefEqProofs only [op, ef, cl, sq, reduceIte, j2, j3, j4, j5, j6, j7, j8, j9, y1, S1, h9]
    · simp -implicitDefEqProofs only [op, ef, cl, sq, reduceIte, j2, j3, j4, j5, j6, j7, j8, j9, y1, S1, h10]
    · simp -implicitDefEqProofs only [op, ef, cl, sq, reduceIte, j2, j3, j4, j5, j6, j7, j8, j9, y1, S1]; omega
    rintro k R H1 ⟨⟨di, hd, hsz, hP, hfr⟩, h0, h3, h8, h9, h10, h12, hk⟩
    have lc := glt hd
    cases k with
    | zero =>
      rw [show (((0 : Nat) : Int) - 1) = -1 from rfl] at h12
      simp -implicitDefEqProofs (maxSteps := 1000000) (disch := omega) only [natOf_nat, iadmO, ldm1O, ldm2O, stm0O, stm1O, stm2O, wA, wA1, wS, wS1, wM, S2, op, ef, cl, sq, reduceIte, j2, j3, j4, j5, j6, j7, j8, j9, y1, S1, h0, h3, h8, h9, h10, h12]
      exact ⟨rfl, di, hd, hsz, hP, hfr⟩
    | succ k =>
      rw [show (((k + 1 : Nat) : Int) - 1) = (k : Int) by omega] at h12
      simp -implicitDefEqProofs (maxSteps := 1000000) (disch := omega) only [natOf_nat, iadmO, ldm1O, ldm2O, stm0O, stm1O, stm2O, wA, wA1, wS, wS1, wM, S2, op, ef, cl, sq, reduceIte, j2, j3, j4, j5, j6, j7, j8, j9, y1, S1, h0, h3, h8, h9, h10, h12, nge0, hd, lc]
      obtain ⟨d1, hd1, hs1, rfl, hf1⟩ := SCO.swp (n := n) (P := fun x => x = swp di a (a + k)) (x := .cells (msC eS (di.toList.set a di[a + k]!))) hd (by rw [Go.Sort.swp_size]; exact hsz) rfl hfr
      refine callB_of _ _ _ _ _ _ _ _ (sift101 c n _ 0 k a _ hs1 hd1 (by omega) (by omega) hs) ?_
      rintro u H2 ⟨hu, d2, hd2, hs2, rfl, hf2⟩
      cases hu
      simp -implicitDefEqProofs (maxSteps := 1000000) (disch := omega) only [wS0, op, ef, cl, sq, reduceIte, j2, j3, j4, j5, j6, j7, j8, j9, y1, S1, h0, h3, h8, h9, h10, h12]
      exact ⟨k, by omega, .i ⟨_, hd2, hs2, hP, hf1.trans hf2 fun _ h => .inl h⟩, rfl, by omega⟩
open Go.Sort in
theorem ord106 (c n p sw : Nat) (d : Array ByteArray) (a b : Nat) (H : Heap) (hn : d.size = n) (hc : H[c]? = some (.cells (msC eS d.toList))) (hp : H[p]? = some (.cells [.int .i64 sw])) (ha : a < n) (hb : b < n) (hs : n < 2305843009213693951) (hsw : sw < 1000) :
    W env (.call 214 [.msl c 0 n 1, .int .i64 a, .int .i64 b, .ptr p 0]) H (OrdQ p (order2 strLt d a b sw) H) := by
  refine W.fnI rfl rfl rfl ?_
  have hd := hc
  have hfr := Frm.refl (fun x => x = p) H
  simp -implicitDefEqProofs (maxSteps := 1000000) (disch := omega) only [ir214, natOf_nat, iadmO, ldm1O, ldm2O, stm0O, stm1O, stm2O, wA, wA1, wS, wS1, wM, S2, op, ef, cl, sq, reduceIte, j2, j3, j4, j5, j6, j7, j8, j9, y1, S1, hd]
  refine callB_of _ _ _ _ _ _ _ _ (less91 d[b]! d[a]! _) ?_
  rintro u H1 ⟨hu, hx0⟩
  cases hu
  have hx : Ext H H1 := by rw [hx0]; exact Ext.rfl'
  have hd := hx.get hd
  have lc := glt hd
  have hfr := hfr.trans (ext_frm (F := fun _ => False) hx) (fun _ h => h.elim)
  have hp1 := hx.get hp
  have lp := glt hp1
  have lt1 : strLt d[b]! d[a]! = decide (strLt d[b]! d[a]! = true) := by simp
  by_cases c1 : strLt d[b]! d[a]! = true
  · simp -implicitDefEqProofs (maxSteps := 1000000) (disch := omega) only [natOf_nat, iadmO, ldm1O, ldm2O, stm0O, stm1O, stm2O, wA, wA1, wS, wS1, wM, S2, op, ef, cl, sq, reduceIte, j2, j3, j4, j5, j6, j7, j8, j9, y1, S1, hd, c1, hp1, lp]
    refine ⟨?_, ?_, ?_⟩
    · rw [order2, if_pos (lt1.trans (dect c1))]
    · rw [order2, if_pos (lt1.trans (dect c1))]; exact g_eq lp
    · exact hfr.set (.inl rfl) _
  · simp -implicitDefEqProofs (maxSteps := 1000000) (disch := omega) only [natOf_nat, iadmO, ldm1O, ldm2O, stm0O, stm1O, stm2O, wA, wA1, wS, wS1, wM, S2, op, ef, cl, sq, reduceIte, j2, j3, j4, j5, j6, j7, j8, j9, y1, S1, hd, c1, hp1, lp]
    refine ⟨?_, ?_, ?_⟩
    · rw [order2, if_neg (by rw [lt1, decf c1]; simp)]
    · rw [order2, if_neg (by rw [lt1, decf c1]; simp)]; exact hp1
    · exact hfr
open Go.Sort in
theorem ord_ltO (d : Array ByteArray) {n a b sw : Nat} (ha : a < n) (hb : b < n) : (Go.Sort.order2 strLt d a b sw).1 < n ∧ (Go.Sort.order2 strLt d a b sw).2.1 < n ∧ (Go.Sort.order2 strLt d a b sw).2.2 ≤ sw + 1 := by
  unfold Go.Sort.order2
  split
  · exact ⟨hb, ha, Nat.le_refl _⟩
  · exact ⟨ha, hb, Nat.le_succ _⟩
open Go.Sort in
theorem med103 (c n p sw : Nat) (d : Array ByteArray) (a b e : Nat) (H : Heap) (hn : d.size = n) (hc : H[c]? = some (.cells (msC eS d.toList))) (hp : H[p]? = some (.cells [.int .i64 sw])) (hcp : ¬ c = p) (ha : a < n) (hb : b < n) (he : e < n) (hs : n < 2305843009213693951) (hsw : sw < 900) :
    W env (.call 212 [.msl c 0 n 1, .int .i64 a, .int .i64 b, .int .i64 e, .ptr p 0]) H (fun o H' => MedQ p (median strLt d a b e sw) H o H' ∧ (median strLt d a b e sw).1 < n ∧ (median strLt d a b e sw).2 ≤ sw + 3) := by
  refine W.fnI rfl rfl rfl ?_
  simp -implicitDefEqProofs only [ir212, op, ef, cl, sq, reduceIte, j2, j3, j4, j5, j6, j7, j8, j9, y1, S1]
  refine callB_of _ _ _ _ _ _ _ _ (ord106 c n p sw d a b _ hn hc hp ha hb hs (by omega)) ?_
  rintro u H1 ⟨hu, hp1, hf1⟩
  cases hu
  have hc1 := hf1.get hc hcp
  obtain ⟨r1, hr1⟩ : ∃ r, r = order2 strLt d a b sw := ⟨_, rfl⟩
  obtain ⟨q1, q2, q3⟩ := ord_ltO d (sw := sw) ha hb
  rw [← hr1] at q1 q2 q3 hp1 ⊢
  try simp -implicitDefEqProofs only [op, ef, cl, sq, reduceIte, j2, j3, j4, j5, j6, j7, j8, j9, y1, S1]
  refine callB_of _ _ _ _ _ _ _ _ (ord106 c n p r1.2.2 d r1.2.1 e _ hn hc1 hp1 q2 he hs (by omega)) ?_
  rintro u H2 ⟨hu, hp2, hf2⟩
  cases hu
  have hc2 := hf2.get hc1 hcp
  obtain ⟨r2, hr2⟩ : ∃ r, r = order2 strLt d r1.2.1 e r1.2.2 := ⟨_, rfl⟩
  obtain ⟨q4, q5, q6⟩ := ord_ltO d (sw := r1.2.2) q2 he
  rw [← hr2] at q4 q5 q6 hp2 ⊢
  try simp -implicitDefEqProofs only [op, ef, cl, sq, reduceIte, j2, j3, j4, j5, j6, j7, j8, j9, y1, S1]
  refine callB_of _ _ _ _ _ _ _ _ (ord106 c n p r2.2.2 d r1.1 r2.1 _ hn hc2 hp2 q1 q4 hs (by omega)) ?_
  rintro u H3 ⟨hu, hp3, hf3⟩
  cases hu
  obtain ⟨q7, q8, q9⟩ := ord_ltO d (sw := r2.2.2) q1 q4
  have e : median strLt d a b e sw = ((order2 strLt d r1.1 r2.1 r2.2.2).2.1, (order2 strLt d r1.1 r2.1 r2.2.2).2.2) := by rw [median, ← hr1, ← hr2]
  rw [e]
  try simp -implicitDefEqProofs only [op, ef, cl, sq, reduceIte, j2, j3, j4, j5, j6, j7, j8, j9, y1, S1]
  exact ⟨⟨rfl, hp3, (hf1.trans hf2 fun _ h => .inl h).trans hf3 fun _ h => .inl h⟩, q8, by omega⟩
open Go.Sort in
theorem madj102 (c n p sw : Nat) (d : Array ByteArray) (a : Nat) (H : Heap) (hn : d.size = n) (hc : H[c]? = some (.cells (msC eS d.toList))) (hp : H[p]? = some (.cells [.int .i64 sw])) (hcp : ¬ c = p) (ha : 1 ≤ a) (ha2 : a + 1 < n) (hs : n < 2305843009213693951) (hsw : sw < 900) :
    W env (.call 211 [.msl c 0 n 1, .int .i64 a, .ptr p 0]) H (fun o H' => MedQ p (medianAdjacent strLt d a sw) H o H' ∧ (medianAdjacent strLt d a sw).1 < n ∧ (medianAdjacent strLt d a sw).2 ≤ sw + 3) := by
  refine W.fnI rfl rfl rfl ?_
  simp -implicitDefEqProofs (maxSteps := 1000000) (disch := omega) only [ir211, natOf_nat, iadmO, ldm1O, ldm2O, stm0O, stm1O, stm2O, wA, wA1, wS, wS1, wM, S2, op, ef, cl, sq, reduceIte, j2, j3, j4, j5, j6, j7, j8, j9, y1, S1]
  refine callB_of _ _ _ _ _ _ _ _ (med103 c n p sw d (a - 1) a (a + 1) _ hn hc hp hcp (by omega) (by omega) ha2 hs hsw) ?_
  rintro u H1 ⟨⟨hu, hp1, hf1⟩, q1, q2⟩
  cases hu
  try simp -implicitDefEqProofs only [op, ef, cl, sq, reduceIte, j2, j3, j4, j5, j6, j7, j8, j9, y1, S1]
  exact ⟨⟨rfl, hp1, hf1⟩, q1, q2⟩
open Go.Sort in
theorem choose88 (c n : Nat) (d : Array ByteArray) (a b : Nat) (H : Heap) (hn : d.size = n) (hc : H[c]? = some (.cells (msC eS d.toList))) (hb : b ≤ n) (hab : a + 12 < b) (hs : n < 1305843009213693951) :
    W env (.call 201 [.msl c 0 n 1, .int .i64 a, .int .i64 b]) H (fun o H' => o = .val (.tup [.int .i64 (choosePivot strLt d a b).1, .int .i64 (hintN (choosePivot strLt d a b).2)]) ∧ Ext H H') := by
  refine W.fnI rfl rfl rfl ?_
  have h8 : 8 ≤ b - a := by omega
  have lc := glt hc
  have hcp : ¬ c = H.length := by omega
  have hc0 : (H ++ [B.cells [T.int IntKind.i64 0]])[c]? = some (.cells (msC eS d.toList)) := by rw [g_app lc]; exact hc
  have hp0 : (H ++ [B.cells [T.int IntKind.i64 0]])[H.length]? = some (.cells [.int .i64 ((0 : Nat) : Int)]) := g_tail rfl
  have fin : ∀ H2 : Heap, Frm (fun x => x = H.length) (H ++ [B.cells [T.int IntKind.i64 0]]) H2 → Ext H H2 := fun H2 hf => ext_of fun x y hx => hf.get (by rw [g_app (glt hx)]; exact hx) (by have := glt hx; omega)
  by_cases h50 : 50 ≤ b - a
  · simp -implicitDefEqProofs (maxSteps := 1000000) (disch := omega) only [ir201, natOf_nat, iadmO, ldm1O, ldm2O, stm0O, stm1O, stm2O, wA, wA1, wS, wS1, wM, S2, op, ef, cl, sq, reduceIte, j2, j3, j4, j5, j6, j7, j8, j9, y1, S1, wQ4, wM1, wM2, wM3, h8, h50]
    refine callB_of _ _ _ _ _ _ _ _ (madj102 c n H.length 0 d _ _ hn hc0 hp0 hcp (by omega) (by omega) (by omega) (by omega)) ?_
    rintro u H1 ⟨⟨hu, hp1, hf1⟩, q1, q2⟩
    cases hu
    obtain ⟨ri, hri⟩ : ∃ r, r = medianAdjacent strLt d (a + (b - a) / 4 * 1) 0 := ⟨_, rfl⟩
    rw [← hri] at q1 q2 hp1 ⊢
    have hc1 := hf1.get hc0 hcp
    try simp -implicitDefEqProofs only [op, ef, cl, sq, reduceIte, j2, j3, j4, j5, j6, j7, j8, j9, y1, S1]
    refine callB_of _ _ _ _ _ _ _ _ (madj102 c n H.length ri.2 d _ _ hn hc1 hp1 hcp (by omega) (by omega) (by omega) (by omega)) ?_
    rintro u H2 ⟨⟨hu, hp2, hf2⟩, q3, q4⟩
    cases hu
    obtain ⟨rj, hrj⟩ : ∃ r, r = medianAdjacent strLt d (a + (b - a) / 4 * 2) ri.2 := ⟨_, rfl⟩
    rw [← hrj] at q3 q4 hp2 ⊢
    have hc2 := hf2.get hc1 hcp
    try simp -implicitDefEqProofs only [op, ef, cl, sq, reduceIte, j2, j3, j4, j5, j6, j7, j8, j9, y1, S1]
    refine callB_of _ _ _ _ _ _ _ _ (madj102 c n H.length rj.2 d _ _ hn hc2 hp2 hcp (by omega) (by omega) (by omega) (by omega)) ?_
    rintro u H3 ⟨⟨hu, hp3, hf3⟩, q5, q6⟩
    cases hu
    obtain ⟨rk, hrk⟩ : ∃ r, r = medianAdjacent strLt d (a + (b - a) / 4 * 3) rj.2 := ⟨_, rfl⟩
    rw [← hrk] at q5 q6 hp3 ⊢
    have hc3 := hf3.get hc2 hcp
    try simp -implicitDefEqProofs only [op, ef, cl, sq, reduceIte, j2, j3, j4, j5, j6, j7, j8, j9, y1, S1]
    refine callB_of _ _ _ _ _ _ _ _ (med103 c n H.length rk.2 d ri.1 rj.1 rk.1 _ hn hc3 hp3 hcp q1 q3 q5 (by omega) (by omega)) ?_
    rintro u H4 ⟨⟨hu, hp4, hf4⟩, q7, q8⟩
    cases hu
    have e : choosePivot strLt d a b = ((median strLt d ri.1 rj.1 rk.1 rk.2).1, if (median strLt d ri.1 rj.1 rk.1 rk.2).2 = 0 then .increasing else if (median strLt d ri.1 rj.1 rk.1 rk.2).2 = 12 then .decreasing else .unknown) := by
      simp -implicitDefEqProofs only [choosePivot, ge_iff_le, if_pos h8, if_pos h50, ← hri, ← hrj, ← hrk]
    rw [e]
    have hx := fin _ (((hf1.trans hf2 fun _ h => .inl h).trans hf3 fun _ h => .inl h).trans hf4 fun _ h => .inl h)
    generalize median strLt d ri.1 rj.1 rk.1 rk.2 = r at *
    obtain ⟨m, sw⟩ := r
    simp only at hp4 ⊢
    by_cases s0 : sw = 0
    · subst s0
      have e0 : (((0 : Nat) : Int) == 0) = true := rfl
      simp -implicitDefEqProofs only [op, ef, cl, sq, reduceIte, j2, j3, j4, j5, j6, j7, j8, j9, y1, S1, hp4, e0]
      exact ⟨rfl, hx⟩
    have e0 : (((sw : Nat) : Int) == 0) = false := by simp; omega
    by_cases s1 : sw = 12
    · subst s1
      have e1 : (((12 : Nat) : Int) == 12) = true := rfl
      simp -implicitDefEqProofs only [op, ef, cl, sq, reduceIte, j2, j3, j4, j5, j6, j7, j8, j9, y1, S1, hp4, e0, e1]
      exact ⟨rfl, hx⟩
    have e1 : (((sw : Nat) : Int) == 12) = false := by simp; omega
    simp -implicitDefEqProofs only [op, ef, cl, sq, reduceIte, j2, j3, j4, j5, j6, j7, j8, j9, y1, S1, hp4, e0, e1, s0, s1]
    exact ⟨rfl, hx⟩
  · simp -implicitDefEqProofs (maxSteps := 1000000) (disch := omega) only [ir201, natOf_nat, iadmO, ldm1O, ldm2O, stm0O, stm1O, stm2O, wA, wA1, wS, wS1, wM, S2, op, ef, cl, sq, reduceIte, j2, j3, j4, j5, j6, j7, j8, j9, y1, S1, wQ4, wM1, wM2, wM3, h8, h50]
    refine callB_of _ _ _ _ _ _ _ _ (med103 c n H.length 0 d _ _ _ _ hn hc0 hp0 hcp (by omega) (by omega) (by omega) (by omega) (by omega)) ?_
    rintro u H4 ⟨⟨hu, hp4, hf4⟩, q7, q8⟩
    cases hu
    have e : choosePivot strLt d a b = ((median strLt d (a + (b - a) / 4 * 1) (a + (b - a) / 4 * 2) (a + (b - a) / 4 * 3) 0).1, if (median strLt d (a + (b - a) / 4 * 1) (a + (b - a) / 4 * 2) (a + (b - a) / 4 * 3) 0).2 = 0 then .increasing else if (median strLt d (a + (b - a) / 4 * 1) (a + (b - a) / 4 * 2) (a + (b - a) / 4 * 3) 0).2 = 12 then .decreasing else .unknown) := by
      simp -implicitDefEqProofs only [choosePivot, ge_iff_le, if_pos h8, if_neg h50]
    rw [e]
    have hx := fin _ hf4
    generalize median strLt d (a + (b - a) / 4 * 1) (a + (b - a) / 4 * 2) (a + (b - a) / 4 * 3) 0 = r at *
    obtain ⟨m, sw⟩ := r
    simp only at hp4 ⊢
    by_cases s0 : sw = 0
    · subst s0
      have e0 : (((0 : Nat) : Int) == 0) = true := rfl
      simp -implicitDefEqProofs only [op, ef, cl, sq, reduceIte, j2, j3, j4, j5, j6, j7, j8, j9, y1, S1, hp4, e0]
      exact ⟨rfl, hx⟩
    have e0 : (((sw : Nat) : Int) == 0) = false := by simp; omega
    by_cases s1 : sw = 12
    · subst s1
      have e1 : (((12 : Nat) : Int) == 12) = true := rfl
      simp -implicitDefEqProofs only [op, ef, cl, sq, reduceIte, j2, j3, j4, j5, j6, j7, j8, j9, y1, S1, hp4, e0, e1]
      exact ⟨rfl, hx⟩
    have e1 : (((sw : Nat) : Int) == 12) = false := by simp; omega
    simp -implicitDefEqProofs only [op, ef, cl, sq, reduceIte, j2, j3, j4, j5, j6, j7, j8, j9, y1, S1, hp4, e0, e1, s0, s1]
    exact ⟨rfl, hx⟩
def brkO (a len md : Nat) (d : Array ByteArray) : Nat → UInt64 × Array ByteArray
  | 0 => (UInt64.ofNat len, d)
  | j + 1 => Go.Sort.breakStep a len md (brkO a len md d j) (a + len / 4 * 2 - 1 + j)
open Go.Sort in
theorem break87 (c n : Nat) (d : Array ByteArray) (a b : Nat) (H : Heap) (hn : d.size = n) (hc : H[c]? = some (.cells (msC eS d.toList))) (hb : b ≤ n) (hab : a + 12 < b) (hs : n < 16777216) :
    W env (.call 200 [.msl c 0 n 1, .int .i64 a, .int .i64 b]) H (SrtNO c n (breakPatterns d a b) H) := by
  refine W.fnI rfl rfl rfl ?_
  have h8 : 8 ≤ b - a := by omega
  have lc := glt hc
  obtain ⟨len, hlen⟩ : ∃ len, len = b - a := ⟨_, rfl⟩
  have wl : IntKind.u64.wrap ((len : Nat) : Int) = (len : Int) := wrapu (by omega)
  rw [← hlen] at h8
  simp -implicitDefEqProofs (maxSteps := 1000000) (disch := omega) only [ir200, natOf_nat, iadmO, ldm1O, ldm2O, stm0O, stm1O, stm2O, wA, wA1, wS, wS1, wM, S2, op, ef, cl, sq, reduceIte, j2, j3, j4, j5, j6, j7, j8, j9, y1, S1, wQ4, wM2, ← hlen, wl, h8]
  refine callB_of _ _ _ _ _ _ _ _ (next97 len (by omega) _) ?_
  rintro u H1 ⟨hu, rfl⟩
  cases hu
  obtain ⟨md, hmd⟩ : ∃ md, md = 1 <<< bitsLen len := ⟨_, rfl⟩
  have hm2 := two_bits (n := len) (by omega)
  have hm1 : 1 ≤ 1 <<< bitsLen len := by rw [Nat.one_shiftLeft]; exact Nat.one_le_two_pow
  rw [← hmd] at hm1 hm2 ⊢
  have hq : len / 4 * 2 ≤ len := by omega
  obtain ⟨ix, hix⟩ : ∃ ix, ix = a + len / 4 * 2 - 1 := ⟨_, rfl⟩
  have hfin : breakPatterns d a b = (brkO a len md d 3).2 := by
    simp -implicitDefEqProofs only [breakPatterns, ← hlen, ge_iff_le, if_pos h8, brkO, ← hmd, Nat.add_zero]
  simp -implicitDefEqProofs (maxSteps := 1000000) (disch := omega) only [natOf_nat, iadmO, ldm1O, ldm2O, stm0O, stm1O, stm2O, wA, wA1, wS, wS1, wM, S2, op, ef, cl, sq, reduceIte, j2, j3, j4, j5, j6, j7, j8, j9, y1, S1, wQ4, wM2, ← hix]
  have hc1 : (H ++ [B.cells [T.int IntKind.u64 len]])[c]? = some (.cells (msC eS d.toList)) := by rw [g_app lc]; exact hc
  have hp1 : (H ++ [B.cells [T.int IntKind.u64 len]])[H.length]? = some (.cells [.int .u64 (UInt64.ofNat len).toNat]) := by
    rw [g_tail rfl, UInt64.toNat_ofNat_of_lt' (by show len < 18446744073709551616; omega)]
  refine W.loopI (fun (j : Nat) R H' => At H' (fun H' => ∃ d' : Array ByteArray, H'[c]? = some (.cells (msC eS d'.toList)) ∧ d'.size = n ∧ d' = (brkO a len md d j).2 ∧ H'[H.length]? = some (.cells [.int .u64 (brkO a len md d j).1.toNat]) ∧ Frm (fun x => x = c ∨ x = H.length) (H ++ [B.cells [T.int IntKind.u64 len]]) H') ∧ R 0 = .msl c 0 n 1 ∧ R 1 = .int .i64 a ∧ R 6 = .int .i64 len ∧ R 7 = .ptr H.length 0 ∧ R 8 = .int .u64 md ∧ R 9 = .int .i64 (ix + j : Nat) ∧ j ≤ 3) (fun j => 3 - j) 0 ⟨.i ⟨d, hc1, hn, rfl, hp1, Frm.refl _ _⟩, rfl, rfl, rfl, rfl, rfl, rfl, by omega⟩ ?_
  rintro j R H1 ⟨⟨di, hd, hsz, hdj, hp, hfr⟩, h0, h1, h8', h9, h10, h11, hj⟩
  by_cases hj3 : j < 3
  · have hle : ix + j ≤ a + len / 4 * 2 + 1 := by omega
    simp -implicitDefEqProofs (maxSteps := 1000000) (disch := omega) only [natOf_nat, iadmO, ldm1O, ldm2O, stm0O, stm1O, stm2O, wA, wA1, wS, wS1, wM, S2, op, ef, cl, sq, reduceIte, j2, j3, j4, j5, j6, j7, j8, j9, y1, S1, wQ4, wM2, h0, h1, h8', h9, h10, h11, hle]
    refine callB_of _ _ _ _ _ _ _ _ (xor98 H.length _ _ hp) ?_
    rintro u H2 ⟨hu, hp2, hf2⟩
    cases hu
    have hd := hf2.get hd (by omega)
    have lc2 := glt hd
    obtain ⟨r, hr⟩ : ∃ r, r = xorNext (brkO a len md d j).1 := ⟨_, rfl⟩
    rw [← hr] at hp2 ⊢
    obtain ⟨ot, hot⟩ : ∃ ot, ot = r.toNat &&& (md - 1) := ⟨_, rfl⟩
    have hol : ot ≤ md - 1 := by rw [hot]; exact Nat.and_le_right
    have hstep : brkO a len md d (j + 1) = (r, swp di (ix + j) (a + if ot ≥ len then ot - len else ot)) := by
      simp -implicitDefEqProofs only [brkO, breakStep, ← hr, ← hdj, ← hot, ← hix]
    have hne : ¬ (c = H.length) := by omega
    by_cases hge : len ≤ ot
    · rw [if_pos hge] at hstep
      simp -implicitDefEqProofs (maxSteps := 1000000) (disch := omega) only [natOf_nat, iadmO, ldm1O, ldm2O, stm0O, stm1O, stm2O, wA, wA1, wS, wS1, wM, S2, op, ef, cl, sq, reduceIte, j2, j3, j4, j5, j6, j7, j8, j9, y1, S1, wSu, u_and, wN, ← hot, h0, h1, h8', h9, h10, h11, hge, hd, lc2]
      refine ⟨j + 1, by omega, .i ⟨swp di (ix + j) (a + (ot - len)), g_eq (by rw [List.length_set]; exact lc2), by rw [swp_size]; exact hsz, by rw [hstep], ?_, ((hfr.trans hf2 fun x h => .inl (.inr h)).set (.inl (.inl rfl)) _).set (.inl (.inl rfl)) _⟩, rfl, by omega⟩
      rw [g_ne hne, g_ne hne, hp2, hstep]
    · rw [if_neg hge] at hstep
      simp -implicitDefEqProofs (maxSteps := 1000000) (disch := omega) only [natOf_nat, iadmO, ldm1O, ldm2O, stm0O, stm1O, stm2O, wA, wA1, wS, wS1, wM, S2, op, ef, cl, sq, reduceIte, j2, j3, j4, j5, j6, j7, j8, j9, y1, S1, wSu, u_and, wN, ← hot, h0, h1, h8', h9, h10, h11, hge, hd, lc2]
      refine ⟨j + 1, by omega, .i ⟨swp di (ix + j) (a + ot), g_eq (by rw [List.length_set]; exact lc2), by rw [swp_size]; exact hsz, by rw [hstep], ?_, ((hfr.trans hf2 fun x h => .inl (.inr h)).set (.inl (.inl rfl)) _).set (.inl (.inl rfl)) _⟩, rfl, by omega⟩
      rw [g_ne hne, g_ne hne, hp2, hstep]
  · have hj' : j = 3 := by omega
    subst hj'
    have hle : ¬ (ix + 3 ≤ a + len / 4 * 2 + 1) := by omega
    simp -implicitDefEqProofs (maxSteps := 1000000) (disch := omega) only [natOf_nat, iadmO, ldm1O, ldm2O, stm0O, stm1O, stm2O, wA, wA1, wS, wS1, wM, S2, op, ef, cl, sq, reduceIte, j2, j3, j4, j5, j6, j7, j8, j9, y1, S1, wQ4, wM2, h0, h1, h8', h9, h10, h11, hle]
    exact ⟨rfl, di, hd, hsz, by rw [hfin, hdj], (ext_frm (F := fun x => x = c) (H := H) (H' := H ++ [B.cells [T.int IntKind.u64 len]]) ⟨_, rfl⟩).trans hfr fun x h => h.elim .inl fun e => .inr (by omega)⟩
open Go.Sort in
theorem scanDown_eqO {p : ByteArray → Bool} {d : Array ByteArray} {i k : Nat} (h : 1 ≤ i) : scanDown p d i k = if (decide (i ≤ k) && p d[k]!) = true then scanDown p d i (k - 1) else k := by
  cases k with
  | zero => rw [scanDown, if_neg (and_f1 (decf (by omega)))]
  | succ k => rw [scanDown]; rfl
open Go.Sort in
theorem peq_eqO {a i j si sj : Nat} {d : Array ByteArray} (hi : si = scanUp (fun x => !strLt d[a]! x) d j i) (hj : sj = scanDown (fun x => strLt d[a]! x) d si j) : partEqLoop strLt a i j d = if si > sj then (si, d) else if (sj - 1) + 1 - (si + 1) < j + 1 - i then partEqLoop strLt a (si + 1) (sj - 1) (swp d si sj) else (si, d) := by
  subst hi; subst hj
  rw [partEqLoop]
  rfl
open Go.Sort in
theorem peq92 (c n : Nat) (d : Array ByteArray) (a b pv : Nat) (H : Heap) (hn : d.size = n) (hc : H[c]? = some (.cells (msC eS d.toList))) (hb : b ≤ n) (hab : a < b) (hpv : pv < n) (hs : n < 2305843009213693951) :
    W env (.call 204 [.msl c 0 n 1, .int .i64 a, .int .i64 b, .int .i64 pv]) H (fun o H' => o = .val (.int .i64 (partitionEqual strLt d a b pv).1) ∧ SCO c n H (fun x => x = (partitionEqual strLt d a b pv).2) H') := by
  refine W.fnI rfl rfl rfl ?_
  have hd := hc
  have lc := glt hd
  simp -implicitDefEqProofs (maxSteps := 1000000) (disch := omega) only [ir204, natOf_nat, iadmO, ldm1O, ldm2O, stm0O, stm1O, stm2O, wA, wA1, wS, wS1, wM, S2, op, ef, cl, sq, reduceIte, j2, j3, j4, j5, j6, j7, j8, j9, y1, S1, hd, lc]
  obtain ⟨d1, hd1, hs1, e1, hf1⟩ := SCO.swp (n := n) (P := fun x => x = swp d a pv) (x := .cells (msC eS (d.toList.set a d[pv]!))) hd (by rw [Go.Sort.swp_size]; exact hn) rfl (Frm.refl (fun x => x = c) H)
  subst e1
  generalize ((H.set c (.cells (msC eS (d.toList.set a d[pv]!)))).set c (.cells (msC eS (swp d a pv).toList))) = H1 at *
  refine W.loopE 0 (fun (q : Nat × Nat) R H' => At H' (fun H' => SCO c n H (fun di => partEqLoop strLt a q.1 q.2 di = partitionEqual strLt d a b pv) H') ∧ R 0 = .msl c 0 n 1 ∧ R 1 = .int .i64 a ∧ R 0 = .msl c 0 n 1 ∧ R 9 = .int .i64 q.1 ∧ R 10 = .int .i64 q.2 ∧ a < q.1 ∧ q.2 < n ∧ q.1 ≤ n) (fun q => q.2 + 1 - q.1) (a + 1, b - 1)
    (fun R H' => At H' (fun H' => SCO c n H (fun di => di = (partitionEqual strLt d a b pv).2) H') ∧ R 9 = .int .i64 (partitionEqual strLt d a b pv).1) ⟨.i ⟨_, hd1, hs1, rfl, hf1⟩, rfl, rfl, rfl, rfl, rfl, by omega, by simp only; omega, by simp only; omega⟩ ?_ ?_
  · rintro ⟨i, j⟩ R H1 ⟨⟨di, hd, hsz, hP, hfr⟩, h0, h1, h4, h11, h12, hai, hjn, hin⟩
    simp only at hP h11 h12 hai hjn hin ⊢
    simp -implicitDefEqProofs only [op, ef, cl, sq, reduceIte, j2, j3, j4, j5, j6, j7, j8, j9, y1, S1, h0, h1, h4, h11, h12]
    obtain ⟨si, hsi⟩ : ∃ si, si = scanUp (fun x => !strLt di[a]! x) di j i := ⟨_, rfl⟩
    refine W.loopE 2 (fun (k : Nat) R H' => At H' (fun H' => H'[c]? = some (.cells (msC eS di.toList)) ∧ Frm (fun x => x = c) H H') ∧ R 0 = .msl c 0 n 1 ∧ R 1 = .int .i64 a ∧ R 0 = .msl c 0 n 1 ∧ R 9 = .int .i64 k ∧ R 10 = .int .i64 j ∧ i ≤ k ∧ k ≤ n ∧ scanUp (fun x => !strLt di[a]! x) di j k = si) (fun k => j + 1 - k) i
      (fun R H' => At H' (fun H' => H'[c]? = some (.cells (msC eS di.toList)) ∧ Frm (fun x => x = c) H H') ∧ R 0 = .msl c 0 n 1 ∧ R 1 = .int .i64 a ∧ R 0 = .msl c 0 n 1 ∧ R 9 = .int .i64 si ∧ R 10 = .int .i64 j ∧ i ≤ si ∧ si ≤ n) ⟨.i ⟨hd, hfr⟩, h0, h1, h4, h11, h12, Nat.le_refl _, hin, hsi.symm⟩ ?_ ?_
    · rintro k R H2 ⟨⟨hd, hfr⟩, h0, h1, h4, h11, h12, hik, hkn, hk⟩
      have lc := glt hd
      by_cases hkj : k ≤ j
      · simp -implicitDefEqProofs (maxSteps := 1000000) (disch := omega) only [natOf_nat, iadmO, ldm1O, ldm2O, stm0O, stm1O, stm2O, wA, wA1, wS, wS1, wM, S2, op, ef, cl, sq, reduceIte, j2, j3, j4, j5, j6, j7, j8, j9, y1, S1, h0, h1, h4, h11, h12, hkj, hd, lc]
        refine callB_of _ _ _ _ _ _ _ _ (less91 di[a]! di[k]! _) ?_
        rintro u H3 ⟨hu, hx0⟩
        cases hu
        have hx : Ext H2 H3 := by rw [hx0]; exact Ext.rfl'
        have hd := hx.get hd
        have lc := glt hd
        have hfr := hfr.trans (ext_frm (F := fun _ => False) hx) (fun _ h => h.elim)
        have lt1 : strLt di[a]! di[k]! = decide (strLt di[a]! di[k]! = true) := by simp
        by_cases c1 : strLt di[a]! di[k]! = true
        · simp -implicitDefEqProofs (maxSteps := 1000000) (disch := omega) only [natOf_nat, iadmO, ldm1O, ldm2O, stm0O, stm1O, stm2O, wA, wA1, wS, wS1, wM, S2, op, ef, cl, sq, reduceIte, j2, j3, j4, j5, j6, j7, j8, j9, y1, S1, h0, h1, h4, h11, h12, hkj, c1]
          rw [scanUp, if_neg (and_f2 (by rw [lt1, dect c1]; rfl))] at hk
          subst hk
          exact ⟨.i ⟨hd, hfr⟩, rfl, hik, hkn⟩
        · simp -implicitDefEqProofs (maxSteps := 1000000) (disch := omega) only [natOf_nat, iadmO, ldm1O, ldm2O, stm0O, stm1O, stm2O, wA, wA1, wS, wS1, wM, S2, op, ef, cl, sq, reduceIte, j2, j3, j4, j5, j6, j7, j8, j9, y1, S1, h0, h1, h4, h11, h12, hkj, c1]
          rw [scanUp, if_pos (and_t (dect hkj) (not_f (lt1.trans (decf c1))))] at hk
          exact ⟨k + 1, by omega, .i ⟨hd, hfr⟩, rfl, by omega, by omega, hk⟩
      · simp -implicitDefEqProofs (maxSteps := 1000000) (disch := omega) only [op, ef, cl, sq, reduceIte, j2, j3, j4, j5, j6, j7, j8, j9, y1, S1, h0, h1, h4, h11, h12, hkj]
        try simp -implicitDefEqProofs only [op, ef, cl, sq, reduceIte, j2, j3, j4, j5, j6, j7, j8, j9, y1, S1, h0, h1, h4, h11, h12, hkj]
        rw [scanUp, if_neg (and_f1 (decf hkj))] at hk
        subst hk
        exact ⟨.i ⟨hd, hfr⟩, rfl, hik, hkn⟩
    · rintro R H2 ⟨⟨hd, hfr⟩, h0, h1, h4, h11, h12, hisi, hsin⟩
      simp -implicitDefEqProofs only [op, ef, cl, sq, reduceIte, j2, j3, j4, j5, j6, j7, j8, j9, y1, S1, h0, h1, h4, h11, h12]
      obtain ⟨sj, hsj⟩ : ∃ sj, sj = scanDown (fun x => strLt di[a]! x) di si j := ⟨_, rfl⟩
      refine W.loopE 4 (fun (k : Nat) R H' => At H' (fun H' => H'[c]? = some (.cells (msC eS di.toList)) ∧ Frm (fun x => x = c) H H') ∧ R 0 = .msl c 0 n 1 ∧ R 1 = .int .i64 a ∧ R 0 = .msl c 0 n 1 ∧ R 9 = .int .i64 si ∧ R 10 = .int .i64 k ∧ k ≤ j ∧ scanDown (fun x => strLt di[a]! x) di si k = sj) (fun k => k) j
        (fun R H' => At H' (fun H' => H'[c]? = some (.cells (msC eS di.toList)) ∧ Frm (fun x => x = c) H H') ∧ R 0 = .msl c 0 n 1 ∧ R 1 = .int .i64 a ∧ R 0 = .msl c 0 n 1 ∧ R 9 = .int .i64 si ∧ R 10 = .int .i64 sj ∧ sj ≤ j) ⟨.i ⟨hd, hfr⟩, h0, h1, h4, h11, h12, Nat.le_refl _, hsj.symm⟩ ?_ ?_
      · rintro k R H3 ⟨⟨hd, hfr⟩, h0, h1, h4, h11, h12, hkj, hk⟩
        have lc := glt hd
        rw [scanDown_eqO (by omega)] at hk
        by_cases hkk : si ≤ k
        · simp -implicitDefEqProofs (maxSteps := 1000000) (disch := omega) only [natOf_nat, iadmO, ldm1O, ldm2O, stm0O, stm1O, stm2O, wA, wA1, wS, wS1, wM, S2, op, ef, cl, sq, reduceIte, j2, j3, j4, j5, j6, j7, j8, j9, y1, S1, h0, h1, h4, h11, h12, hkk, hd, lc]
          refine callB_of _ _ _ _ _ _ _ _ (less91 di[a]! di[k]! _) ?_
          rintro u H4 ⟨hu, hx0⟩
          cases hu
          have hx : Ext H3 H4 := by rw [hx0]; exact Ext.rfl'
          have hd := hx.get hd
          have lc := glt hd
          have hfr := hfr.trans (ext_frm (F := fun _ => False) hx) (fun _ h => h.elim)
          have lt1 : strLt di[a]! di[k]! = decide (strLt di[a]! di[k]! = true) := by simp
          by_cases c1 : strLt di[a]! di[k]! = true
          · simp -implicitDefEqProofs (maxSteps := 1000000) (disch := omega) only [natOf_nat, iadmO, ldm1O, ldm2O, stm0O, stm1O, stm2O, wA, wA1, wS, wS1, wM, S2, op, ef, cl, sq, reduceIte, j2, j3, j4, j5, j6, j7, j8, j9, y1, S1, h0, h1, h4, h11, h12, hkk, c1]
            rw [if_pos (and_t (dect hkk) (lt1.trans (dect c1)))] at hk
            exact ⟨k - 1, by omega, .i ⟨hd, hfr⟩, rfl, by omega, hk⟩
          · simp -implicitDefEqProofs (maxSteps := 1000000) (disch := omega) only [natOf_nat, iadmO, ldm1O, ldm2O, stm0O, stm1O, stm2O, wA, wA1, wS, wS1, wM, S2, op, ef, cl, sq, reduceIte, j2, j3, j4, j5, j6, j7, j8, j9, y1, S1, h0, h1, h4, h11, h12, hkk, c1]
            rw [if_neg (and_f2 (lt1.trans (decf c1)))] at hk
            subst hk
            exact ⟨.i ⟨hd, hfr⟩, rfl, hkj⟩
        · simp -implicitDefEqProofs only [op, ef, cl, sq, reduceIte, j2, j3, j4, j5, j6, j7, j8, j9, y1, S1, h0, h1, h4, h11, h12, hkk]
          rw [if_neg (and_f1 (decf hkk))] at hk
          subst hk
          exact ⟨.i ⟨hd, hfr⟩, rfl, hkj⟩
      · rintro R H3 ⟨⟨hd, hfr⟩, h0, h1, h4, h11, h12, hsjj⟩
        have lc := glt hd
        rw [peq_eqO hsi hsj] at hP
        by_cases hgt : sj < si
        · rw [if_pos hgt] at hP
          simp -implicitDefEqProofs only [op, ef, cl, sq, reduceIte, j2, j3, j4, j5, j6, j7, j8, j9, y1, S1, h0, h1, h4, h11, h12, hgt]
          exact ⟨.i ⟨di, hd, hsz, by rw [← hP], hfr⟩, by rw [← hP]⟩
        · rw [if_neg hgt, if_pos (by omega)] at hP
          simp -implicitDefEqProofs (maxSteps := 1000000) (disch := omega) only [natOf_nat, iadmO, ldm1O, ldm2O, stm0O, stm1O, stm2O, wA, wA1, wS, wS1, wM, S2, op, ef, cl, sq, reduceIte, j2, j3, j4, j5, j6, j7, j8, j9, y1, S1, h0, h1, h4, h11, h12, hgt, hd, lc]
          exact ⟨(si + 1, sj - 1), by simp only; omega, .i (.swp hd (by rw [swp_size]; exact hsz) hP hfr), rfl, rfl, by simp only; omega, by simp only; omega, by simp only; omega⟩
  · rintro R H1 ⟨⟨di, hd, hsz, hP, hfr⟩, h11⟩
    simp -implicitDefEqProofs only [op, ef, cl, sq, reduceIte, j2, j3, j4, j5, j6, j7, j8, j9, y1, S1, h11]
    exact ⟨di, hd, hsz, hP, hfr⟩
open Go.Sort in
theorem part_eqO {a i j si sj : Nat} {d : Array ByteArray} (hi : si = scanUp (fun x => strLt x d[a]!) d j i) (hj : sj = scanDown (fun x => !strLt x d[a]!) d si j) : partLoop strLt a i j d = if si > sj then (sj, d) else if (sj - 1) + 1 - (si + 1) < j + 1 - i then partLoop strLt a (si + 1) (sj - 1) (swp d si sj) else (sj, d) := by
  subst hi; subst hj
  rw [partLoop]
  rfl
open Go.Sort in
theorem part93 (c n : Nat) (d : Array ByteArray) (a b pv : Nat) (H : Heap) (hn : d.size = n) (hc : H[c]? = some (.cells (msC eS d.toList))) (hb : b ≤ n) (hab : a < b) (hpv : pv < n) (hs : n < 2305843009213693951) :
    W env (.call 205 [.msl c 0 n 1, .int .i64 a, .int .i64 b, .int .i64 pv]) H (fun o H' => o = .val (.tup [.int .i64 (partition strLt d a b pv).1, .bool (partition strLt d a b pv).2.1]) ∧ SCO c n H (fun x => x = (partition strLt d a b pv).2.2) H') := by
  refine W.fnI rfl rfl rfl ?_
  have hd := hc
  have lc := glt hd
  simp -implicitDefEqProofs (maxSteps := 1000000) (disch := omega) only [ir205, natOf_nat, iadmO, ldm1O, ldm2O, stm0O, stm1O, stm2O, wA, wA1, wS, wS1, wM, S2, op, ef, cl, sq, reduceIte, j2, j3, j4, j5, j6, j7, j8, j9, y1, S1, hd, lc]
  obtain ⟨d1, hd1, hs1, e1, hf1⟩ := SCO.swp (n := n) (P := fun x => x = swp d a pv) (x := .cells (msC eS (d.toList.set a d[pv]!))) hd (by rw [Go.Sort.swp_size]; exact hn) rfl (Frm.refl (fun x => x = c) H)
  subst e1
  generalize ((H.set c (.cells (msC eS (d.toList.set a d[pv]!)))).set c (.cells (msC eS (swp d a pv).toList))) = H1 at *
  have hd := hd1
  have hfr := hf1
  obtain ⟨si, hsi⟩ : ∃ si, si = scanUp (fun x => strLt x (swp d a pv)[a]!) (swp d a pv) (b - 1) (a + 1) := ⟨_, rfl⟩
  refine W.loopE 0 (fun (k : Nat) R H' => At H' (fun H' => H'[c]? = some (.cells (msC eS (swp d a pv).toList)) ∧ Frm (fun x => x = c) H H') ∧ R 0 = .msl c 0 n 1 ∧ R 1 = .int .i64 a ∧ R 0 = .msl c 0 n 1 ∧ R 10 = .int .i64 k ∧ R 11 = .int .i64 ((b - 1) : Nat) ∧ (a + 1) ≤ k ∧ k ≤ n ∧ scanUp (fun x => strLt x (swp d a pv)[a]!) (swp d a pv) ((b - 1)) k = si) (fun k => (b - 1) + 1 - k) ((a + 1))
    (fun R H' => At H' (fun H' => H'[c]? = some (.cells (msC eS (swp d a pv).toList)) ∧ Frm (fun x => x = c) H H') ∧ R 0 = .msl c 0 n 1 ∧ R 1 = .int .i64 a ∧ R 0 = .msl c 0 n 1 ∧ R 10 = .int .i64 si ∧ R 11 = .int .i64 ((b - 1) : Nat) ∧ (a + 1) ≤ si ∧ si ≤ n) ⟨.i ⟨hd, hfr⟩, rfl, rfl, rfl, rfl, rfl, Nat.le_refl _, by omega, hsi.symm⟩ ?_ ?_
  · rintro k R H2 ⟨⟨hd, hfr⟩, h0, h1, h4, h12, h13, hik, hkn, hk⟩
    have lc := glt hd
    by_cases hkj : k ≤ (b - 1)
    · simp -implicitDefEqProofs (maxSteps := 1000000) (disch := omega) only [natOf_nat, iadmO, ldm1O, ldm2O, stm0O, stm1O, stm2O, wA, wA1, wS, wS1, wM, S2, op, ef, cl, sq, reduceIte, j2, j3, j4, j5, j6, j7, j8, j9, y1, S1, h0, h1, h4, h12, h13, hkj, hd, lc]
      refine callB_of _ _ _ _ _ _ _ _ (less91 (swp d a pv)[k]! (swp d a pv)[a]! _) ?_
      rintro u H3 ⟨hu, hx0⟩
      cases hu
      have hx : Ext H2 H3 := by rw [hx0]; exact Ext.rfl'
      have hd := hx.get hd
      have lc := glt hd
      have hfr := hfr.trans (ext_frm (F := fun _ => False) hx) (fun _ h => h.elim)
      have lt1 : strLt (swp d a pv)[k]! (swp d a pv)[a]! = decide (strLt (swp d a pv)[k]! (swp d a pv)[a]! = true) := by simp
      by_cases c1 : strLt (swp d a pv)[k]! (swp d a pv)[a]! = true
      · simp -implicitDefEqProofs (maxSteps := 1000000) (disch := omega) only [natOf_nat, iadmO, ldm1O, ldm2O, stm0O, stm1O, stm2O, wA, wA1, wS, wS1, wM, S2, op, ef, cl, sq, reduceIte, j2, j3, j4, j5, j6, j7, j8, j9, y1, S1, h0, h1, h4, h12, h13, hkj, c1]
        rw [scanUp, if_pos (and_t (dect hkj) (lt1.trans (dect c1)))] at hk
        exact ⟨k + 1, by omega, .i ⟨hd, hfr⟩, rfl, by omega, by omega, hk⟩
      · simp -implicitDefEqProofs (maxSteps := 1000000) (disch := omega) only [natOf_nat, iadmO, ldm1O, ldm2O, stm0O, stm1O, stm2O, wA, wA1, wS, wS1, wM, S2, op, ef, cl, sq, reduceIte, j2, j3, j4, j5, j6, j7, j8, j9, y1, S1, h0, h1, h4, h12, h13, hkj, c1]
        rw [scanUp, if_neg (and_f2 (lt1.trans (decf c1)))] at hk
        subst hk
        exact ⟨.i ⟨hd, hfr⟩, rfl, hik, hkn⟩
    · simp -implicitDefEqProofs only [op, ef, cl, sq, reduceIte, j2, j3, j4, j5, j6, j7, j8, j9, y1, S1, h0, h1, h4, h12, h13, hkj]
      rw [scanUp, if_neg (and_f1 (decf hkj))] at hk
      subst hk
      exact ⟨.i ⟨hd, hfr⟩, rfl, hik, hkn⟩
  · rintro R H2 ⟨⟨hd, hfr⟩, h0, h1, h4, h12, h13, hisi, hsin⟩
    simp -implicitDefEqProofs only [op, ef, cl, sq, reduceIte, j2, j3, j4, j5, j6, j7, j8, j9, y1, S1, h0, h1, h4, h12, h13]
    obtain ⟨sj, hsj⟩ : ∃ sj, sj = scanDown (fun x => !strLt x (swp d a pv)[a]!) (swp d a pv) si (b - 1) := ⟨_, rfl⟩
    refine W.loopE 2 (fun (k : Nat) R H' => At H' (fun H' => H'[c]? = some (.cells (msC eS (swp d a pv).toList)) ∧ Frm (fun x => x = c) H H') ∧ R 0 = .msl c 0 n 1 ∧ R 1 = .int .i64 a ∧ R 0 = .msl c 0 n 1 ∧ R 10 = .int .i64 si ∧ R 11 = .int .i64 k ∧ k ≤ (b - 1) ∧ scanDown (fun x => !strLt x (swp d a pv)[a]!) (swp d a pv) si k = sj) (fun k => k) ((b - 1))
      (fun R H' => At H' (fun H' => H'[c]? = some (.cells (msC eS (swp d a pv).toList)) ∧ Frm (fun x => x = c) H H') ∧ R 0 = .msl c 0 n 1 ∧ R 1 = .int .i64 a ∧ R 0 = .msl c 0 n 1 ∧ R 10 = .int .i64 si ∧ R 11 = .int .i64 sj ∧ sj ≤ (b - 1)) ⟨.i ⟨hd, hfr⟩, h0, h1, h4, h12, h13, Nat.le_refl _, hsj.symm⟩ ?_ ?_
    · rintro k R H3 ⟨⟨hd, hfr⟩, h0, h1, h4, h12, h13, hkj, hk⟩
      have lc := glt hd
      rw [scanDown_eqO (by omega)] at hk
      by_cases hkk : si ≤ k
      · simp -implicitDefEqProofs (maxSteps := 1000000) (disch := omega) only [natOf_nat, iadmO, ldm1O, ldm2O, stm0O, stm1O, stm2O, wA, wA1, wS, wS1, wM, S2, op, ef, cl, sq, reduceIte, j2, j3, j4, j5, j6, j7, j8, j9, y1, S1, h0, h1, h4, h12, h13, hkk, hd, lc]
        refine callB_of _ _ _ _ _ _ _ _ (less91 (swp d a pv)[k]! (swp d a pv)[a]! _) ?_
        rintro u H4 ⟨hu, hx0⟩
        cases hu
        have hx : Ext H3 H4 := by rw [hx0]; exact Ext.rfl'
        have hd := hx.get hd
        have lc := glt hd
        have hfr := hfr.trans (ext_frm (F := fun _ => False) hx) (fun _ h => h.elim)
        have lt1 : strLt (swp d a pv)[k]! (swp d a pv)[a]! = decide (strLt (swp d a pv)[k]! (swp d a pv)[a]! = true) := by simp
        by_cases c1 : strLt (swp d a pv)[k]! (swp d a pv)[a]! = true
        · simp -implicitDefEqProofs (maxSteps := 1000000) (disch := omega) only [natOf_nat, iadmO, ldm1O, ldm2O, stm0O, stm1O, stm2O, wA, wA1, wS, wS1, wM, S2, op, ef, cl, sq, reduceIte, j2, j3, j4, j5, j6, j7, j8, j9, y1, S1, h0, h1, h4, h12, h13, hkk, c1]
          rw [if_neg (and_f2 (by rw [lt1, dect c1]; rfl))] at hk
          subst hk
          exact ⟨.i ⟨hd, hfr⟩, rfl, hkj⟩
        · simp -implicitDefEqProofs (maxSteps := 1000000) (disch := omega) only [natOf_nat, iadmO, ldm1O, ldm2O, stm0O, stm1O, stm2O, wA, wA1, wS, wS1, wM, S2, op, ef, cl, sq, reduceIte, j2, j3, j4, j5, j6, j7, j8, j9, y1, S1, h0, h1, h4, h12, h13, hkk, c1]
          rw [if_pos (and_t (dect hkk) (not_f (lt1.trans (decf c1))))] at hk
          exact ⟨k - 1, by omega, .i ⟨hd, hfr⟩, rfl, by omega, hk⟩
      · simp -implicitDefEqProofs only [op, ef, cl, sq, reduceIte, j2, j3, j4, j5, j6, j7, j8, j9, y1, S1, h0, h1, h4, h12, h13, hkk]
        rw [if_neg (and_f1 (decf hkk))] at hk
        subst hk
        exact ⟨.i ⟨hd, hfr⟩, rfl, hkj⟩
    · rintro R H3 ⟨⟨hd, hfr⟩, h0, h1, h4, h12, h13, hsjj⟩
      have lc := glt hd
      by_cases hgt : sj < si
      · have e : partition strLt d a b pv = (sj, true, swp (swp d a pv) sj a) := by
          simp -implicitDefEqProofs only [partition, ← hsi, ← hsj, gt_iff_lt, if_pos hgt]
        rw [e]
        simp -implicitDefEqProofs (maxSteps := 1000000) (disch := omega) only [natOf_nat, iadmO, ldm1O, ldm2O, stm0O, stm1O, stm2O, wA, wA1, wS, wS1, wM, S2, op, ef, cl, sq, reduceIte, j2, j3, j4, j5, j6, j7, j8, j9, y1, S1, h0, h1, h4, h12, h13, hgt, hd, lc]
        exact .swp hd (by rw [swp_size]; exact hs1) rfl hfr
      · obtain ⟨r, hr⟩ : ∃ r, r = partLoop strLt a (si + 1) (sj - 1) (swp (swp d a pv) si sj) := ⟨_, rfl⟩
        have e : partition strLt d a b pv = (r.1, false, swp r.2 r.1 a) := by
          simp -implicitDefEqProofs only [partition, ← hsi, ← hsj, gt_iff_lt, if_neg hgt, ← hr]
        rw [e]
        simp -implicitDefEqProofs (maxSteps := 1000000) (disch := omega) only [natOf_nat, iadmO, ldm1O, ldm2O, stm0O, stm1O, stm2O, wA, wA1, wS, wS1, wM, S2, op, ef, cl, sq, reduceIte, j2, j3, j4, j5, j6, j7, j8, j9, y1, S1, h0, h1, h4, h12, h13, hgt, hd, lc]
        obtain ⟨d2, hd2, hs2, e2, hf2⟩ := SCO.swp (n := n) (P := fun x => x = swp (swp d a pv) si sj) (x := .cells (msC eS ((swp d a pv).toList.set si (swp d a pv)[sj]!))) hd (by rw [swp_size]; exact hs1) rfl hfr
        subst e2
        generalize ((H3.set c (.cells (msC eS ((swp d a pv).toList.set si (swp d a pv)[sj]!)))).set c (.cells (msC eS (swp (swp d a pv) si sj).toList))) = H5 at *
        refine W.loopE 4 (fun (q : Nat × Nat) R H' => At H' (fun H' => SCO c n H (fun di => partLoop strLt a q.1 q.2 di = r) H') ∧ R 0 = .msl c 0 n 1 ∧ R 1 = .int .i64 a ∧ R 0 = .msl c 0 n 1 ∧ R 10 = .int .i64 q.1 ∧ R 11 = .int .i64 q.2 ∧ a < q.1 ∧ q.2 < n ∧ q.1 ≤ n) (fun q => q.2 + 1 - q.1) (si + 1, sj - 1)
          (fun R H' => At H' (fun H' => SCO c n H (fun di => di = r.2) H') ∧ R 0 = .msl c 0 n 1 ∧ R 1 = .int .i64 a ∧ R 0 = .msl c 0 n 1 ∧ R 11 = .int .i64 r.1 ∧ r.1 < n) ⟨.i ⟨_, hd2, hs2, hr.symm, hf2⟩, ?_, ?_, ?_, ?_, ?_, by simp only; omega, by simp only; omega, by simp only; omega⟩ ?_ ?_
        · simp -implicitDefEqProofs only [op, ef, cl, sq, reduceIte, j2, j3, j4, j5, j6, j7, j8, j9, y1, S1, h0]
        · simp -implicitDefEqProofs only [op, ef, cl, sq, reduceIte, j2, j3, j4, j5, j6, j7, j8, j9, y1, S1, h1]
        · simp -implicitDefEqProofs only [op, ef, cl, sq, reduceIte, j2, j3, j4, j5, j6, j7, j8, j9, y1, S1, h4]
        · simp -implicitDefEqProofs only [op, ef, cl, sq, reduceIte, j2, j3, j4, j5, j6, j7, j8, j9, y1, S1, h12]
        · simp -implicitDefEqProofs only [op, ef, cl, sq, reduceIte, j2, j3, j4, j5, j6, j7, j8, j9, y1, S1, h13]
        · rintro ⟨i, j⟩ R H1 ⟨⟨di, hd, hsz, hP, hfr⟩, h0, h1, h4, h12, h13, hai, hjn, hin⟩
          simp only at hP h12 h13 hai hjn hin ⊢
          simp -implicitDefEqProofs only [op, ef, cl, sq, reduceIte, j2, j3, j4, j5, j6, j7, j8, j9, y1, S1, h0, h1, h4, h12, h13]
          clear hsi hsj
          obtain ⟨si, hsi⟩ : ∃ si, si = scanUp (fun x => strLt x di[a]!) di j i := ⟨_, rfl⟩
          refine W.loopE 6 (fun (k : Nat) R H' => At H' (fun H' => H'[c]? = some (.cells (msC eS di.toList)) ∧ Frm (fun x => x = c) H H') ∧ R 0 = .msl c 0 n 1 ∧ R 1 = .int .i64 a ∧ R 0 = .msl c 0 n 1 ∧ R 10 = .int .i64 k ∧ R 11 = .int .i64 (j : Nat) ∧ i ≤ k ∧ k ≤ n ∧ scanUp (fun x => strLt x di[a]!) di (j) k = si) (fun k => j + 1 - k) (i)
            (fun R H' => At H' (fun H' => H'[c]? = some (.cells (msC eS di.toList)) ∧ Frm (fun x => x = c) H H') ∧ R 0 = .msl c 0 n 1 ∧ R 1 = .int .i64 a ∧ R 0 = .msl c 0 n 1 ∧ R 10 = .int .i64 si ∧ R 11 = .int .i64 (j : Nat) ∧ i ≤ si ∧ si ≤ n) ⟨.i ⟨hd, hfr⟩, h0, h1, h4, h12, h13, Nat.le_refl _, by omega, hsi.symm⟩ ?_ ?_
          · rintro k R H2 ⟨⟨hd, hfr⟩, h0, h1, h4, h12, h13, hik, hkn, hk⟩
            have lc := glt hd
            by_cases hkj : k ≤ j
            · simp -implicitDefEqProofs (maxSteps := 1000000) (disch := omega) only [natOf_nat, iadmO, ldm1O, ldm2O, stm0O, stm1O, stm2O, wA, wA1, wS, wS1, wM, S2, op, ef, cl, sq, reduceIte, j2, j3, j4, j5, j6, j7, j8, j9, y1, S1, h0, h1, h4, h12, h13, hkj, hd, lc]
              refine callB_of _ _ _ _ _ _ _ _ (less91 di[k]! di[a]! _) ?_
              rintro u H3 ⟨hu, hx0⟩
              cases hu
              have hx : Ext H2 H3 := by rw [hx0]; exact Ext.rfl'
              have hd := hx.get hd
              have lc := glt hd
              have hfr := hfr.trans (ext_frm (F := fun _ => False) hx) (fun _ h => h.elim)
              have lt1 : strLt di[k]! di[a]! = decide (strLt di[k]! di[a]! = true) := by simp
              by_cases c1 : strLt di[k]! di[a]! = true
              · simp -implicitDefEqProofs (maxSteps := 1000000) (disch := omega) only [natOf_nat, iadmO, ldm1O, ldm2O, stm0O, stm1O, stm2O, wA, wA1, wS, wS1, wM, S2, op, ef, cl, sq, reduceIte, j2, j3, j4, j5, j6, j7, j8, j9, y1, S1, h0, h1, h4, h12, h13, hkj, c1]
                rw [scanUp, if_pos (and_t (dect hkj) (lt1.trans (dect c1)))] at hk
                exact ⟨k + 1, by omega, .i ⟨hd, hfr⟩, rfl, by omega, by omega, hk⟩
              · simp -implicitDefEqProofs (maxSteps := 1000000) (disch := omega) only [natOf_nat, iadmO, ldm1O, ldm2O, stm0O, stm1O, stm2O, wA, wA1, wS, wS1, wM, S2, op, ef, cl, sq, reduceIte, j2, j3, j4, j5, j6, j7, j8, j9, y1, S1, h0, h1, h4, h12, h13, hkj, c1]
                rw [scanUp, if_neg (and_f2 (lt1.trans (decf c1)))] at hk
                subst hk
                exact ⟨.i ⟨hd, hfr⟩, rfl, hik, hkn⟩
            · simp -implicitDefEqProofs only [op, ef, cl, sq, reduceIte, j2, j3, j4, j5, j6, j7, j8, j9, y1, S1, h0, h1, h4, h12, h13, hkj]
              rw [scanUp, if_neg (and_f1 (decf hkj))] at hk
              subst hk
              exact ⟨.i ⟨hd, hfr⟩, rfl, hik, hkn⟩
          · rintro R H2 ⟨⟨hd, hfr⟩, h0, h1, h4, h12, h13, hisi, hsin⟩
            simp -implicitDefEqProofs only [op, ef, cl, sq, reduceIte, j2, j3, j4, j5, j6, j7, j8, j9, y1, S1, h0, h1, h4, h12, h13]
            obtain ⟨sj, hsj⟩ : ∃ sj, sj = scanDown (fun x => !strLt x di[a]!) di si j := ⟨_, rfl⟩
            refine W.loopE 8 (fun (k : Nat) R H' => At H' (fun H' => H'[c]? = some (.cells (msC eS di.toList)) ∧ Frm (fun x => x = c) H H') ∧ R 0 = .msl c 0 n 1 ∧ R 1 = .int .i64 a ∧ R 0 = .msl c 0 n 1 ∧ R 10 = .int .i64 si ∧ R 11 = .int .i64 k ∧ k ≤ j ∧ scanDown (fun x => !strLt x di[a]!) di si k = sj) (fun k => k) (j)
              (fun R H' => At H' (fun H' => H'[c]? = some (.cells (msC eS di.toList)) ∧ Frm (fun x => x = c) H H') ∧ R 0 = .msl c 0 n 1 ∧ R 1 = .int .i64 a ∧ R 0 = .msl c 0 n 1 ∧ R 10 = .int .i64 si ∧ R 11 = .int .i64 sj ∧ sj ≤ j) ⟨.i ⟨hd, hfr⟩, h0, h1, h4, h12, h13, Nat.le_refl _, hsj.symm⟩ ?_ ?_
            · rintro k R H3 ⟨⟨hd, hfr⟩, h0, h1, h4, h12, h13, hkj, hk⟩
              have lc := glt hd
              rw [scanDown_eqO (by omega)] at hk
              by_cases hkk : si ≤ k
              · simp -implicitDefEqProofs (maxSteps := 1000000) (disch := omega) only [natOf_nat, iadmO, ldm1O, ldm2O, stm0O, stm1O, stm2O, wA, wA1, wS, wS1, wM, S2, op, ef, cl, sq, reduceIte, j2, j3, j4, j5, j6, j7, j8, j9, y1, S1, h0, h1, h4, h12, h13, hkk, hd, lc]
                refine callB_of _ _ _ _ _ _ _ _ (less91 di[k]! di[a]! _) ?_
                rintro u H4 ⟨hu, hx0⟩
                cases hu
                have hx : Ext H3 H4 := by rw [hx0]; exact Ext.rfl'
                have hd := hx.get hd
                have lc := glt hd
                have hfr := hfr.trans (ext_frm (F := fun _ => False) hx) (fun _ h => h.elim)
                have lt1 : strLt di[k]! di[a]! = decide (strLt di[k]! di[a]! = true) := by simp
                by_cases c1 : strLt di[k]! di[a]! = true
                · simp -implicitDefEqProofs (maxSteps := 1000000) (disch := omega) only [natOf_nat, iadmO, ldm1O, ldm2O, stm0O, stm1O, stm2O, wA, wA1, wS, wS1, wM, S2, op, ef, cl, sq, reduceIte, j2, j3, j4, j5, j6, j7, j8, j9, y1, S1, h0, h1, h4, h12, h13, hkk, c1]
                  rw [if_neg (and_f2 (by rw [lt1, dect c1]; rfl))] at hk
                  subst hk
                  exact ⟨.i ⟨hd, hfr⟩, rfl, hkj⟩
                · simp -implicitDefEqProofs (maxSteps := 1000000) (disch := omega) only [natOf_nat, iadmO, ldm1O, ldm2O, stm0O, stm1O, stm2O, wA, wA1, wS, wS1, wM, S2, op, ef, cl, sq, reduceIte, j2, j3, j4, j5, j6, j7, j8, j9, y1, S1, h0, h1, h4, h12, h13, hkk, c1]
                  rw [if_pos (and_t (dect hkk) (not_f (lt1.trans (decf c1))))] at hk
                  exact ⟨k - 1, by omega, .i ⟨hd, hfr⟩, rfl, by omega, hk⟩
              · simp -implicitDefEqProofs only [op, ef, cl, sq, reduceIte, j2, j3, j4, j5, j6, j7, j8, j9, y1, S1, h0, h1, h4, h12, h13, hkk]
                rw [if_neg (and_f1 (decf hkk))] at hk
                subst hk
                exact ⟨.i ⟨hd, hfr⟩, rfl, hkj⟩
            · rintro R H3 ⟨⟨hd, hfr⟩, h0, h1, h4, h12, h13, hsjj⟩
              have lc := glt hd
              rw [part_eqO hsi hsj] at hP
              by_cases hgt : sj < si
              · rw [if_pos hgt] at hP
                simp -implicitDefEqProofs only [op, ef, cl, sq, reduceIte, j2, j3, j4, j5, j6, j7, j8, j9, y1, S1, h0, h1, h4, h12, h13, hgt]
                exact ⟨.i ⟨di, hd, hsz, by rw [← hP], hfr⟩, by rw [← hP], by rw [← hP]; simp only; omega⟩
              · rw [if_neg hgt, if_pos (by omega)] at hP
                simp -implicitDefEqProofs (maxSteps := 1000000) (disch := omega) only [natOf_nat, iadmO, ldm1O, ldm2O, stm0O, stm1O, stm2O, wA, wA1, wS, wS1, wM, S2, op, ef, cl, sq, reduceIte, j2, j3, j4, j5, j6, j7, j8, j9, y1, S1, h0, h1, h4, h12, h13, hgt, hd, lc]
                exact ⟨(si + 1, sj - 1), by simp only; omega, .i (.swp hd (by rw [swp_size]; exact hsz) hP hfr), rfl, rfl, by simp only; omega, by simp only; omega, by simp only; omega⟩
        · rintro R H1 ⟨⟨di, hd, hsz, rfl, hfr⟩, h0, h1, h4, h13, hr1⟩
          have lc := glt hd
          simp -implicitDefEqProofs (maxSteps := 1000000) (disch := omega) only [natOf_nat, iadmO, ldm1O, ldm2O, stm0O, stm1O, stm2O, wA, wA1, wS, wS1, wM, S2, op, ef, cl, sq, reduceIte, j2, j3, j4, j5, j6, j7, j8, j9, y1, S1, h0, h1, h4, h13, hd, lc]
          exact .swp hd (by rw [swp_size]; exact hsz) rfl hfr
open Go.Sort in
theorem shiftDown_eqO {d : Array ByteArray} {k : Nat} (h : 1 ≤ k) : shiftDown strLt k d = if (!strLt d[k]! d[k - 1]!) = true then d else shiftDown strLt (k - 1) (swp d k (k - 1)) := by
  cases k with
  | zero => omega
  | succ k => rw [shiftDown]; rfl
open Go.Sort in
theorem pins90 (c n : Nat) (d : Array ByteArray) (a b : Nat) (H : Heap) (hn : d.size = n) (hc : H[c]? = some (.cells (msC eS d.toList))) (hb : b ≤ n) (hab : a < b) (hs : n < 2305843009213693951) :
    W env (.call 203 [.msl c 0 n 1, .int .i64 a, .int .i64 b]) H (fun o H' => o = .val (.bool (partialInsertionSort strLt d a b).2) ∧ SCO c n H (fun x => x = (partialInsertionSort strLt d a b).1) H') := by
  refine W.fnI rfl rfl rfl ?_
  obtain ⟨r, hr⟩ : ∃ r, r = partialInsertionSort strLt d a b := ⟨_, rfl⟩
  rw [← hr]
  simp -implicitDefEqProofs (maxSteps := 1000000) (disch := omega) only [ir203, natOf_nat, iadmO, ldm1O, ldm2O, stm0O, stm1O, stm2O, wA, wA1, wS, wS1, wM, S2, op, ef, cl, sq, reduceIte, j2, j3, j4, j5, j6, j7, j8, j9, y1, S1]
  refine W.loopE 0 (fun (j : Nat) R H' => At H' (fun H' => ∃ i, R 7 = .int .i64 (i : Nat) ∧ a < i ∧ i ≤ b ∧ SCO c n H (fun di => partialIns strLt a b (5 - j) i di = r) H') ∧ R 0 = .msl c 0 n 1 ∧ R 1 = .int .i64 a ∧ R 2 = .int .i64 b ∧ R 0 = .msl c 0 n 1 ∧ R 8 = .int .i64 j ∧ j ≤ 5) (fun j => 5 - j) 0
    (fun R H' => At H' (fun H' => SCO c n H (fun di => (di, false) = r) H')) ⟨.i ⟨a + 1, rfl, by omega, by omega, d, hc, hn, hr.symm, Frm.refl _ _⟩, rfl, rfl, rfl, rfl, rfl, by omega⟩ ?_ ?_
  · rintro j R H1 ⟨⟨i, h9, hai, hib, di, hd, hsz, hP, hfr⟩, h0, h1, h2, h3, h10, hj⟩
    by_cases hj5 : j < 5
    rotate_left
    · have : j = 5 := by omega
      subst this
      simp -implicitDefEqProofs only [op, ef, cl, sq, reduceIte, j2, j3, j4, j5, j6, j7, j8, j9, y1, S1, h0, h1, h2, h3, h10]
      exact .i ⟨di, hd, hsz, hP, hfr⟩
    obtain ⟨s, hs5⟩ : ∃ s, 5 - j = s + 1 := ⟨4 - j, by omega⟩
    have hs5' : 5 - (j + 1) = s := by omega
    rw [hs5, partialIns] at hP
    simp -implicitDefEqProofs only [op, ef, cl, sq, reduceIte, j2, j3, j4, j5, j6, j7, j8, j9, y1, S1, h0, h1, h2, h3, h10, hj5]
    obtain ⟨si, hsi⟩ : ∃ si, si = scanSorted strLt di b i := ⟨_, rfl⟩
    rw [← hsi] at hP
    refine W.loopE 2 (fun (k : Nat) R H' => At H' (fun H' => H'[c]? = some (.cells (msC eS di.toList)) ∧ Frm (fun x => x = c) H H') ∧ R 0 = .msl c 0 n 1 ∧ R 1 = .int .i64 a ∧ R 2 = .int .i64 b ∧ R 0 = .msl c 0 n 1 ∧ R 7 = .int .i64 k ∧ R 8 = .int .i64 j ∧ i ≤ k ∧ k ≤ b ∧ scanSorted strLt di b k = si) (fun k => b - k) i
      (fun R H' => At H' (fun H' => H'[c]? = some (.cells (msC eS di.toList)) ∧ Frm (fun x => x = c) H H') ∧ R 0 = .msl c 0 n 1 ∧ R 1 = .int .i64 a ∧ R 2 = .int .i64 b ∧ R 0 = .msl c 0 n 1 ∧ R 7 = .int .i64 si ∧ R 8 = .int .i64 j ∧ i ≤ si ∧ si ≤ b) ⟨.i ⟨hd, hfr⟩, ?_, ?_, ?_, ?_, ?_, ?_, Nat.le_refl _, hib, hsi.symm⟩ ?_ ?_
    · simp -implicitDefEqProofs only [op, ef, cl, sq, reduceIte, j2, j3, j4, j5, j6, j7, j8, j9, y1, S1, h0]
    · simp -implicitDefEqProofs only [op, ef, cl, sq, reduceIte, j2, j3, j4, j5, j6, j7, j8, j9, y1, S1, h1]
    · simp -implicitDefEqProofs only [op, ef, cl, sq, reduceIte, j2, j3, j4, j5, j6, j7, j8, j9, y1, S1, h2]
    · simp -implicitDefEqProofs only [op, ef, cl, sq, reduceIte, j2, j3, j4, j5, j6, j7, j8, j9, y1, S1, h3]
    · simp -implicitDefEqProofs only [op, ef, cl, sq, reduceIte, j2, j3, j4, j5, j6, j7, j8, j9, y1, S1, h9]
    · simp -implicitDefEqProofs only [op, ef, cl, sq, reduceIte, j2, j3, j4, j5, j6, j7, j8, j9, y1, S1, h10]
    · rintro k R H2 ⟨⟨hd, hfr⟩, h0, h1, h2, h3, h9, h10, hik, hkb, hk⟩
      have lc := glt hd
      by_cases hkk : k < b
      · simp -implicitDefEqProofs (maxSteps := 1000000) (disch := omega) only [natOf_nat, iadmO, ldm1O, ldm2O, stm0O, stm1O, stm2O, wA, wA1, wS, wS1, wM, S2, op, ef, cl, sq, reduceIte, j2, j3, j4, j5, j6, j7, j8, j9, y1, S1, h0, h1, h2, h3, h9, h10, hkk, hd, lc]
        refine callB_of _ _ _ _ _ _ _ _ (less91 di[k]! di[k - 1]! _) ?_
        rintro u H3 ⟨hu, hx0⟩
        cases hu
        have hx : Ext H2 H3 := by rw [hx0]; exact Ext.rfl'
        have hd := hx.get hd
        have lc := glt hd
        have hfr := hfr.trans (ext_frm (F := fun _ => False) hx) (fun _ h => h.elim)
        have lt1 : strLt di[k]! di[k - 1]! = decide (strLt di[k]! di[k - 1]! = true) := by simp
        by_cases c1 : strLt di[k]! di[k - 1]! = true
        · simp -implicitDefEqProofs (maxSteps := 1000000) (disch := omega) only [natOf_nat, iadmO, ldm1O, ldm2O, stm0O, stm1O, stm2O, wA, wA1, wS, wS1, wM, S2, op, ef, cl, sq, reduceIte, j2, j3, j4, j5, j6, j7, j8, j9, y1, S1, h0, h1, h2, h3, h9, h10, hkk, c1]
          rw [scanSorted, if_neg (and_f2 (by rw [lt1, dect c1]; rfl))] at hk
          subst hk
          exact ⟨.i ⟨hd, hfr⟩, rfl, hik, hkb⟩
        · simp -implicitDefEqProofs (maxSteps := 1000000) (disch := omega) only [natOf_nat, iadmO, ldm1O, ldm2O, stm0O, stm1O, stm2O, wA, wA1, wS, wS1, wM, S2, op, ef, cl, sq, reduceIte, j2, j3, j4, j5, j6, j7, j8, j9, y1, S1, h0, h1, h2, h3, h9, h10, hkk, c1]
          rw [scanSorted, if_pos (and_t (dect hkk) (not_f (lt1.trans (decf c1))))] at hk
          exact ⟨k + 1, by omega, .i ⟨hd, hfr⟩, rfl, by omega, by omega, hk⟩
      · simp -implicitDefEqProofs only [op, ef, cl, sq, reduceIte, j2, j3, j4, j5, j6, j7, j8, j9, y1, S1, h0, h1, h2, h3, h9, h10, hkk]
        rw [scanSorted, if_neg (and_f1 (decf hkk))] at hk
        subst hk
        exact ⟨.i ⟨hd, hfr⟩, rfl, hik, hkb⟩
    · rintro R H2 ⟨⟨hd, hfr⟩, h0, h1, h2, h3, h9, h10, hisi, hsib⟩
      have lc := glt hd
      by_cases hb1 : si = b
      · rw [if_pos hb1] at hP
        have e1 : ((si : Int) == (b : Int)) = true := by rw [hb1]; simp
        simp -implicitDefEqProofs (maxSteps := 1000000) (disch := omega) only [natOf_nat, iadmO, ldm1O, ldm2O, stm0O, stm1O, stm2O, wA, wA1, wS, wS1, wM, S2, op, ef, cl, sq, reduceIte, j2, j3, j4, j5, j6, j7, j8, j9, y1, S1, h0, h1, h2, h3, h9, h10, e1]
        rw [← hP]
        exact ⟨rfl, di, hd, hsz, rfl, hfr⟩
      rw [if_neg hb1] at hP
      have e1 : ((si : Int) == (b : Int)) = false := by simp; omega
      by_cases h50 : b - a < 50
      · rw [if_pos h50] at hP
        simp -implicitDefEqProofs (maxSteps := 1000000) (disch := omega) only [natOf_nat, iadmO, ldm1O, ldm2O, stm0O, stm1O, stm2O, wA, wA1, wS, wS1, wM, S2, op, ef, cl, sq, reduceIte, j2, j3, j4, j5, j6, j7, j8, j9, y1, S1, h0, h1, h2, h3, h9, h10, e1, h50]
        rw [← hP]
        exact ⟨rfl, di, hd, hsz, rfl, hfr⟩
      rw [if_neg h50] at hP
      simp -implicitDefEqProofs (maxSteps := 1000000) (disch := omega) only [natOf_nat, iadmO, ldm1O, ldm2O, stm0O, stm1O, stm2O, wA, wA1, wS, wS1, wM, S2, op, ef, cl, sq, reduceIte, j2, j3, j4, j5, j6, j7, j8, j9, y1, S1, h0, h1, h2, h3, h9, h10, e1, h50, hd, lc]
      obtain ⟨d3, hd3⟩ : ∃ d3, d3 = if si - a ≥ 2 then shiftDown strLt (si - 1) (swp di si (si - 1)) else swp di si (si - 1) := ⟨_, rfl⟩
      obtain ⟨d4, hd4⟩ : ∃ d4, d4 = if b - si ≥ 2 then shiftUp strLt b (si + 1) d3 else d3 := ⟨_, rfl⟩
      have hP : partialIns strLt a b s si d4 = r := by rw [hd4, hd3]; exact hP
      obtain ⟨d2, hd2, hs2, e2, hf2⟩ := SCO.swp (n := n) (P := fun x => x = swp di si (si - 1)) (x := .cells (msC eS (di.toList.set si di[si - 1]!))) hd (by rw [swp_size]; exact hsz) rfl hfr
      subst e2
      generalize ((H2.set c (.cells (msC eS (di.toList.set si di[si - 1]!)))).set c (.cells (msC eS (swp di si (si - 1)).toList))) = H5 at *
      by_cases hA : 2 ≤ si - a
      · rw [if_pos hA] at hd3
        simp -implicitDefEqProofs (maxSteps := 1000000) (disch := omega) only [natOf_nat, iadmO, ldm1O, ldm2O, stm0O, stm1O, stm2O, wA, wA1, wS, wS1, wM, S2, op, ef, cl, sq, reduceIte, j2, j3, j4, j5, j6, j7, j8, j9, y1, S1, h0, h1, h2, h3, h9, h10, hA]
        refine W.loopE 4 (fun (k : Nat) R H' => At H' (fun H' => SCO c n H (fun dx => shiftDown strLt k dx = d3) H') ∧ R 0 = .msl c 0 n 1 ∧ R 1 = .int .i64 a ∧ R 2 = .int .i64 b ∧ R 0 = .msl c 0 n 1 ∧ R 7 = .int .i64 si ∧ R 8 = .int .i64 j ∧ R 9 = .int .i64 k ∧ k < b) (fun k => k) (si - 1)
          (fun R H' => At H' (fun H' => SCO c n H (fun dx => dx = d3) H') ∧ R 0 = .msl c 0 n 1 ∧ R 1 = .int .i64 a ∧ R 2 = .int .i64 b ∧ R 0 = .msl c 0 n 1 ∧ R 7 = .int .i64 si ∧ R 8 = .int .i64 j) ⟨.i ⟨_, hd2, hs2, hd3.symm, hf2⟩, ?_, ?_, ?_, ?_, ?_, ?_, ?_, by omega⟩ ?_ ?_
        · simp -implicitDefEqProofs only [op, ef, cl, sq, reduceIte, j2, j3, j4, j5, j6, j7, j8, j9, y1, S1, h0]
        · simp -implicitDefEqProofs only [op, ef, cl, sq, reduceIte, j2, j3, j4, j5, j6, j7, j8, j9, y1, S1, h1]
        · simp -implicitDefEqProofs only [op, ef, cl, sq, reduceIte, j2, j3, j4, j5, j6, j7, j8, j9, y1, S1, h2]
        · simp -implicitDefEqProofs only [op, ef, cl, sq, reduceIte, j2, j3, j4, j5, j6, j7, j8, j9, y1, S1, h3]
        · simp -implicitDefEqProofs only [op, ef, cl, sq, reduceIte, j2, j3, j4, j5, j6, j7, j8, j9, y1, S1, h9]
        · simp -implicitDefEqProofs only [op, ef, cl, sq, reduceIte, j2, j3, j4, j5, j6, j7, j8, j9, y1, S1, h10]
        · simp -implicitDefEqProofs only [op, ef, cl, sq, reduceIte, j2, j3, j4, j5, j6, j7, j8, j9, y1, S1]
        · rintro k R H2 ⟨⟨dx, hd, hsz, hk, hfr⟩, h0, h1, h2, h3, h9, h10, h11, hkb⟩
          have lc := glt hd
          by_cases hk1 : 1 ≤ k
          · simp -implicitDefEqProofs (maxSteps := 1000000) (disch := omega) only [natOf_nat, iadmO, ldm1O, ldm2O, stm0O, stm1O, stm2O, wA, wA1, wS, wS1, wM, S2, op, ef, cl, sq, reduceIte, j2, j3, j4, j5, j6, j7, j8, j9, y1, S1, h0, h1, h2, h3, h9, h10, h11, hk1, hd, lc]
            refine callB_of _ _ _ _ _ _ _ _ (less91 dx[k]! dx[k - 1]! _) ?_
            rintro u H3 ⟨hu, hx0⟩
            cases hu
            have hx : Ext H2 H3 := by rw [hx0]; exact Ext.rfl'
            have hd := hx.get hd
            have lc := glt hd
            have hfr := hfr.trans (ext_frm (F := fun _ => False) hx) (fun _ h => h.elim)
            have lt1 : strLt dx[k]! dx[k - 1]! = decide (strLt dx[k]! dx[k - 1]! = true) := by simp
            rw [shiftDown_eqO hk1] at hk
            by_cases c1 : strLt dx[k]! dx[k - 1]! = true
            · simp -implicitDefEqProofs (maxSteps := 1000000) (disch := omega) only [natOf_nat, iadmO, ldm1O, ldm2O, stm0O, stm1O, stm2O, wA, wA1, wS, wS1, wM, S2, op, ef, cl, sq, reduceIte, j2, j3, j4, j5, j6, j7, j8, j9, y1, S1, h0, h1, h2, h3, h9, h10, h11, hk1, hd, lc, c1]
              rw [if_neg (not_t (lt1.trans (dect c1)))] at hk
              exact ⟨k - 1, by omega, .i (.swp hd (by rw [swp_size]; exact hsz) hk hfr), rfl, by omega⟩
            · simp -implicitDefEqProofs (maxSteps := 1000000) (disch := omega) only [natOf_nat, iadmO, ldm1O, ldm2O, stm0O, stm1O, stm2O, wA, wA1, wS, wS1, wM, S2, op, ef, cl, sq, reduceIte, j2, j3, j4, j5, j6, j7, j8, j9, y1, S1, h0, h1, h2, h3, h9, h10, h11, hk1, hd, lc, c1]
              rw [if_pos (not_f (lt1.trans (decf c1)))] at hk
              exact .i ⟨dx, hd, hsz, hk, hfr⟩
          · have hk0 : k = 0 := by omega
            subst hk0
            simp -implicitDefEqProofs only [op, ef, cl, sq, reduceIte, j2, j3, j4, j5, j6, j7, j8, j9, y1, S1, h0, h1, h2, h3, h9, h10, h11, hk1]
            rw [shiftDown] at hk
            exact .i ⟨dx, hd, hsz, hk, hfr⟩
        · rintro R H2 ⟨⟨dx, hd, hsz3, rfl, hfr⟩, h0, h1, h2, h3, h9, h10⟩
          have lc := glt hd
          by_cases hB : 2 ≤ b - si
          · simp -implicitDefEqProofs (maxSteps := 1000000) (disch := omega) only [natOf_nat, iadmO, ldm1O, ldm2O, stm0O, stm1O, stm2O, wA, wA1, wS, wS1, wM, S2, op, ef, cl, sq, reduceIte, j2, j3, j4, j5, j6, j7, j8, j9, y1, S1, h0, h1, h2, h3, h9, h10, hB]
            rw [if_pos hB] at hd4
            refine W.loopE 6 (fun (k : Nat) R H' => At H' (fun H' => SCO c n H (fun dx => shiftUp strLt b k dx = d4) H') ∧ R 0 = .msl c 0 n 1 ∧ R 1 = .int .i64 a ∧ R 2 = .int .i64 b ∧ R 0 = .msl c 0 n 1 ∧ R 7 = .int .i64 si ∧ R 8 = .int .i64 j ∧ R 10 = .int .i64 k ∧ 1 ≤ k ∧ k ≤ b) (fun k => b - k) (si + 1)
              (fun R H' => At H' (fun H' => SCO c n H (fun dx => dx = d4) H') ∧ R 0 = .msl c 0 n 1 ∧ R 1 = .int .i64 a ∧ R 2 = .int .i64 b ∧ R 0 = .msl c 0 n 1 ∧ R 7 = .int .i64 si ∧ R 8 = .int .i64 j) ⟨.i ⟨dx, hd, hsz3, hd4.symm, hfr⟩, ?_, ?_, ?_, ?_, ?_, ?_, ?_, by omega, by omega⟩ ?_ ?_
            · simp -implicitDefEqProofs only [op, ef, cl, sq, reduceIte, j2, j3, j4, j5, j6, j7, j8, j9, y1, S1, h0]
            · simp -implicitDefEqProofs only [op, ef, cl, sq, reduceIte, j2, j3, j4, j5, j6, j7, j8, j9, y1, S1, h1]
            · simp -implicitDefEqProofs only [op, ef, cl, sq, reduceIte, j2, j3, j4, j5, j6, j7, j8, j9, y1, S1, h2]
            · simp -implicitDefEqProofs only [op, ef, cl, sq, reduceIte, j2, j3, j4, j5, j6, j7, j8, j9, y1, S1, h3]
            · simp -implicitDefEqProofs only [op, ef, cl, sq, reduceIte, j2, j3, j4, j5, j6, j7, j8, j9, y1, S1, h9]
            · simp -implicitDefEqProofs only [op, ef, cl, sq, reduceIte, j2, j3, j4, j5, j6, j7, j8, j9, y1, S1, h10]
            · simp -implicitDefEqProofs only [op, ef, cl, sq, reduceIte, j2, j3, j4, j5, j6, j7, j8, j9, y1, S1]
            · rintro k R H2 ⟨⟨dx, hd, hsz, hk, hfr⟩, h0, h1, h2, h3, h9, h10, h12, hk1, hkb⟩
              have lc := glt hd
              by_cases hkk : k < b
              · simp -implicitDefEqProofs (maxSteps := 1000000) (disch := omega) only [natOf_nat, iadmO, ldm1O, ldm2O, stm0O, stm1O, stm2O, wA, wA1, wS, wS1, wM, S2, op, ef, cl, sq, reduceIte, j2, j3, j4, j5, j6, j7, j8, j9, y1, S1, h0, h1, h2, h3, h9, h10, h12, hkk, hd, lc]
                refine callB_of _ _ _ _ _ _ _ _ (less91 dx[k]! dx[k - 1]! _) ?_
                rintro u H3 ⟨hu, hx0⟩
                cases hu
                have hx : Ext H2 H3 := by rw [hx0]; exact Ext.rfl'
                have hd := hx.get hd
                have lc := glt hd
                have hfr := hfr.trans (ext_frm (F := fun _ => False) hx) (fun _ h => h.elim)
                have lt1 : strLt dx[k]! dx[k - 1]! = decide (strLt dx[k]! dx[k - 1]! = true) := by simp
                rw [shiftUp, if_pos hkk] at hk
                by_cases c1 : strLt dx[k]! dx[k - 1]! = true
                · simp -implicitDefEqProofs (maxSteps := 1000000) (disch := omega) only [natOf_nat, iadmO, ldm1O, ldm2O, stm0O, stm1O, stm2O, wA, wA1, wS, wS1, wM, S2, op, ef, cl, sq, reduceIte, j2, j3, j4, j5, j6, j7, j8, j9, y1, S1, h0, h1, h2, h3, h9, h10, h12, hkk, hd, lc, c1]
                  rw [if_neg (not_t (lt1.trans (dect c1)))] at hk
                  exact ⟨k + 1, by omega, .i (.swp hd (by rw [swp_size]; exact hsz) hk hfr), rfl, by omega, by omega⟩
                · simp -implicitDefEqProofs (maxSteps := 1000000) (disch := omega) only [natOf_nat, iadmO, ldm1O, ldm2O, stm0O, stm1O, stm2O, wA, wA1, wS, wS1, wM, S2, op, ef, cl, sq, reduceIte, j2, j3, j4, j5, j6, j7, j8, j9, y1, S1, h0, h1, h2, h3, h9, h10, h12, hkk, hd, lc, c1]
                  rw [if_pos (not_f (lt1.trans (decf c1)))] at hk
                  exact .i ⟨dx, hd, hsz, hk, hfr⟩
              · simp -implicitDefEqProofs only [op, ef, cl, sq, reduceIte, j2, j3, j4, j5, j6, j7, j8, j9, y1, S1, h0, h1, h2, h3, h9, h10, h12, hkk]
                rw [shiftUp, if_neg hkk] at hk
                exact .i ⟨dx, hd, hsz, hk, hfr⟩
            · rintro R H2 ⟨⟨dx, hd, hsz, rfl, hfr⟩, h0, h1, h2, h3, h9, h10⟩
              simp -implicitDefEqProofs (maxSteps := 1000000) (disch := omega) only [natOf_nat, iadmO, ldm1O, ldm2O, stm0O, stm1O, stm2O, wA, wA1, wS, wS1, wM, S2, op, ef, cl, sq, reduceIte, j2, j3, j4, j5, j6, j7, j8, j9, y1, S1, h0, h1, h2, h3, h9, h10]
              exact ⟨j + 1, by omega, .i ⟨si, rfl, by omega, by omega, dx, hd, hsz, by rw [hs5']; exact hP, hfr⟩, rfl, by omega⟩
          · rw [if_neg hB] at hd4
            subst hd4
            simp -implicitDefEqProofs (maxSteps := 1000000) (disch := omega) only [natOf_nat, iadmO, ldm1O, ldm2O, stm0O, stm1O, stm2O, wA, wA1, wS, wS1, wM, S2, op, ef, cl, sq, reduceIte, j2, j3, j4, j5, j6, j7, j8, j9, y1, S1, h0, h1, h2, h3, h9, h10, hB]
            exact ⟨j + 1, by omega, .i ⟨si, rfl, by omega, by omega, d4, hd, hsz3, by rw [hs5']; exact hP, hfr⟩, rfl, by omega⟩
      · rw [if_neg hA] at hd3
        simp -implicitDefEqProofs (maxSteps := 1000000) (disch := omega) only [natOf_nat, iadmO, ldm1O, ldm2O, stm0O, stm1O, stm2O, wA, wA1, wS, wS1, wM, S2, op, ef, cl, sq, reduceIte, j2, j3, j4, j5, j6, j7, j8, j9, y1, S1, h0, h1, h2, h3, h9, h10, hA]
        have hd := hd2
        have hsz3 := hs2
        have hfr := hf2
        rw [← hd3] at hd hsz3
        by_cases hB : 2 ≤ b - si
        · simp -implicitDefEqProofs (maxSteps := 1000000) (disch := omega) only [natOf_nat, iadmO, ldm1O, ldm2O, stm0O, stm1O, stm2O, wA, wA1, wS, wS1, wM, S2, op, ef, cl, sq, reduceIte, j2, j3, j4, j5, j6, j7, j8, j9, y1, S1, h0, h1, h2, h3, h9, h10, hB]
          rw [if_pos hB] at hd4
          refine W.loopE 6 (fun (k : Nat) R H' => At H' (fun H' => SCO c n H (fun dx => shiftUp strLt b k dx = d4) H') ∧ R 0 = .msl c 0 n 1 ∧ R 1 = .int .i64 a ∧ R 2 = .int .i64 b ∧ R 0 = .msl c 0 n 1 ∧ R 7 = .int .i64 si ∧ R 8 = .int .i64 j ∧ R 10 = .int .i64 k ∧ 1 ≤ k ∧ k ≤ b) (fun k => b - k) (si + 1)
            (fun R H' => At H' (fun H' => SCO c n H (fun dx => dx = d4) H') ∧ R 0 = .msl c 0 n 1 ∧ R 1 = .int .i64 a ∧ R 2 = .int .i64 b ∧ R 0 = .msl c 0 n 1 ∧ R 7 = .int .i64 si ∧ R 8 = .int .i64 j) ⟨.i ⟨d3, hd, hsz3, hd4.symm, hfr⟩, ?_, ?_, ?_, ?_, ?_, ?_, ?_, by omega, by omega⟩ ?_ ?_
          · simp -implicitDefEqProofs only [op, ef, cl, sq, reduceIte, j2, j3, j4, j5, j6, j7, j8, j9, y1, S1, h0]
          · simp -implicitDefEqProofs only [op, ef, cl, sq, reduceIte, j2, j3, j4, j5, j6, j7, j8, j9, y1, S1, h1]
          · simp -implicitDefEqProofs only [op, ef, cl, sq, reduceIte, j2, j3, j4, j5, j6, j7, j8, j9, y1, S1, h2]
          · simp -implicitDefEqProofs only [op, ef, cl, sq, reduceIte, j2, j3, j4, j5, j6, j7, j8, j9, y1, S1, h3]
          · simp -implicitDefEqProofs only [op, ef, cl, sq, reduceIte, j2, j3, j4, j5, j6, j7, j8, j9, y1, S1, h9]
          · simp -implicitDefEqProofs only [op, ef, cl, sq, reduceIte, j2, j3, j4, j5, j6, j7, j8, j9, y1, S1, h10]
          · simp -implicitDefEqProofs only [op, ef, cl, sq, reduceIte, j2, j3, j4, j5, j6, j7, j8, j9, y1, S1]
          · rintro k R H2 ⟨⟨dx, hd, hsz, hk, hfr⟩, h0, h1, h2, h3, h9, h10, h12, hk1, hkb⟩
            have lc := glt hd
            by_cases hkk : k < b
            · simp -implicitDefEqProofs (maxSteps := 1000000) (disch := omega) only [natOf_nat, iadmO, ldm1O, ldm2O, stm0O, stm1O, stm2O, wA, wA1, wS, wS1, wM, S2, op, ef, cl, sq, reduceIte, j2, j3, j4, j5, j6, j7, j8, j9, y1, S1, h0, h1, h2, h3, h9, h10, h12, hkk, hd, lc]
              refine callB_of _ _ _ _ _ _ _ _ (less91 dx[k]! dx[k - 1]! _) ?_
              rintro u H3 ⟨hu, hx0⟩
              cases hu
              have hx : Ext H2 H3 := by rw [hx0]; exact Ext.rfl'
              have hd := hx.get hd
              have lc := glt hd
              have hfr := hfr.trans (ext_frm (F := fun _ => False) hx) (fun _ h => h.elim)
              have lt1 : strLt dx[k]! dx[k - 1]! = decide (strLt dx[k]! dx[k - 1]! = true) := by simp
              rw [shiftUp, if_pos hkk] at hk
              by_cases c1 : strLt dx[k]! dx[k - 1]! = true
              · simp -implicitDefEqProofs (maxSteps := 1000000) (disch := omega) only [natOf_nat, iadmO, ldm1O, ldm2O, stm0O, stm1O, stm2O, wA, wA1, wS, wS1, wM, S2, op, ef, cl, sq, reduceIte, j2, j3, j4, j5, j6, j7, j8, j9, y1, S1, h0, h1, h2, h3, h9, h10, h12, hkk, hd, lc, c1]
                rw [if_neg (not_t (lt1.trans (dect c1)))] at hk
                exact ⟨k + 1, by omega, .i (.swp hd (by rw [swp_size]; exact hsz) hk hfr), rfl, by omega, by omega⟩
              · simp -implicitDefEqProofs (maxSteps := 1000000) (disch := omega) only [natOf_nat, iadmO, ldm1O, ldm2O, stm0O, stm1O, stm2O, wA, wA1, wS, wS1, wM, S2, op, ef, cl, sq, reduceIte, j2, j3, j4, j5, j6, j7, j8, j9, y1, S1, h0, h1, h2, h3, h9, h10, h12, hkk, hd, lc, c1]
                rw [if_pos (not_f (lt1.trans (decf c1)))] at hk
                exact .i ⟨dx, hd, hsz, hk, hfr⟩
            · simp -implicitDefEqProofs only [op, ef, cl, sq, reduceIte, j2, j3, j4, j5, j6, j7, j8, j9, y1, S1, h0, h1, h2, h3, h9, h10, h12, hkk]
              rw [shiftUp, if_neg hkk] at hk
              exact .i ⟨dx, hd, hsz, hk, hfr⟩
          · rintro R H2 ⟨⟨dx, hd, hsz, rfl, hfr⟩, h0, h1, h2, h3, h9, h10⟩
            simp -implicitDefEqProofs (maxSteps := 1000000) (disch := omega) only [natOf_nat, iadmO, ldm1O, ldm2O, stm0O, stm1O, stm2O, wA, wA1, wS, wS1, wM, S2, op, ef, cl, sq, reduceIte, j2, j3, j4, j5, j6, j7, j8, j9, y1, S1, h0, h1, h2, h3, h9, h10]
            exact ⟨j + 1, by omega, .i ⟨si, rfl, by omega, by omega, dx, hd, hsz, by rw [hs5']; exact hP, hfr⟩, rfl, by omega⟩
        · rw [if_neg hB] at hd4
          subst hd4
          simp -implicitDefEqProofs (maxSteps := 1000000) (disch := omega) only [natOf_nat, iadmO, ldm1O, ldm2O, stm0O, stm1O, stm2O, wA, wA1, wS, wS1, wM, S2, op, ef, cl, sq, reduceIte, j2, j3, j4, j5, j6, j7, j8, j9, y1, S1, h0, h1, h2, h3, h9, h10, hB]
          exact ⟨j + 1, by omega, .i ⟨si, rfl, by omega, by omega, d4, hd, hsz3, by rw [hs5']; exact hP, hfr⟩, rfl, by omega⟩
  · rintro R H1 ⟨di, hd, hsz, hP, hfr⟩
    try simp -implicitDefEqProofs only [op, ef, cl, sq, reduceIte, j2, j3, j4, j5, j6, j7, j8, j9, y1, S1]
    rw [← hP]
    exact ⟨rfl, di, hd, hsz, rfl, hfr⟩
structure PRO (R : Regs) (c n a b lim : Nat) (wb wp : Bool) : Prop where
  r0 : R 0 = .msl c 0 n 1
  r1 : R 1 = .int .i64 a
  r2 : R 2 = .int .i64 b
  r3 : R 3 = .int .i64 lim
  r4 : R 0 = .msl c 0 n 1
  r10 : R 8 = .bool wb
  r11 : R 9 = .bool wp
  r12 : R 10 = .int .i64 (b - a : Nat)
open Go.Sort in
theorem seg3O (A : C) (hA : (bkOf ir181.body 1).map (seqN · 3) = some A) (c n a b lim : Nat) (wb wp : Bool) (d : Array ByteArray) (R : Regs) (H0 H : Heap) (K : Out → Heap → Prop) (hp : PRO R c n a b lim wb wp) (hd : SCO c n H0 (fun x => x = d) H) (hb : b ≤ n) (hab : a + 12 < b) (hs : n < 16777216) (hl : 1 ≤ lim ∧ lim < 1000)
    (rest : ∀ R' H', PRO R' c n a b (if (!wb) = true then lim - 1 else lim) wb wp → SCO c n H0 (fun x => x = if (!wb) = true then breakPatterns d a b else d) H' → K (.ex .normal R') H') : wpC env A R H K := by
  simp [ir181, bkOf, seqN, sq] at hA
  subst hA
  obtain ⟨h0, h1, h2, h3, h4, h10, h11, h12⟩ := hp
  obtain ⟨di, hc, hn, rfl, hfr⟩ := hd
  cases wb with
  | true =>
    simp -implicitDefEqProofs (maxSteps := 1000000) (disch := omega) only [op, ef, cl, sq, reduceIte, j2, j3, j4, j5, j6, j7, j8, j9, y1, S1, h0, h1, h2, h3, h4, h10, h11, h12]
    exact rest _ _ ⟨by simp -implicitDefEqProofs only [op, ef, cl, sq, reduceIte, j2, j3, j4, j5, j6, j7, j8, j9, y1, S1, h0], by simp -implicitDefEqProofs only [op, ef, cl, sq, reduceIte, j2, j3, j4, j5, j6, j7, j8, j9, y1, S1, h1], by simp -implicitDefEqProofs only [op, ef, cl, sq, reduceIte, j2, j3, j4, j5, j6, j7, j8, j9, y1, S1, h2], by simp -implicitDefEqProofs only [op, ef, cl, sq, reduceIte, j2, j3, j4, j5, j6, j7, j8, j9, y1, S1, h3], by simp -implicitDefEqProofs only [op, ef, cl, sq, reduceIte, j2, j3, j4, j5, j6, j7, j8, j9, y1, S1, h4], by simp -implicitDefEqProofs only [op, ef, cl, sq, reduceIte, j2, j3, j4, j5, j6, j7, j8, j9, y1, S1, h10], by simp -implicitDefEqProofs only [op, ef, cl, sq, reduceIte, j2, j3, j4, j5, j6, j7, j8, j9, y1, S1, h11], by simp -implicitDefEqProofs only [op, ef, cl, sq, reduceIte, j2, j3, j4, j5, j6, j7, j8, j9, y1, S1, h12]⟩ ⟨di, hc, hn, rfl, hfr⟩
  | false =>
    simp -implicitDefEqProofs (maxSteps := 1000000) (disch := omega) only [op, ef, cl, sq, reduceIte, j2, j3, j4, j5, j6, j7, j8, j9, y1, S1, h0, h1, h2, h3, h4, h10, h11, h12]
    refine callB_of _ _ _ _ _ _ _ _ (break87 c n di a b _ hn hc hb hab hs) ?_
    rintro u H2 ⟨hu, d2, hd2, hs2, e2, hf2⟩
    cases hu
    simp -implicitDefEqProofs (maxSteps := 1000000) (disch := omega) only [natOf_nat, iadmO, ldm1O, ldm2O, stm0O, stm1O, stm2O, wA, wA1, wS, wS1, wM, S2, op, ef, cl, sq, reduceIte, j2, j3, j4, j5, j6, j7, j8, j9, y1, S1, h0, h1, h2, h3, h4, h10, h11, h12]
    exact rest _ _ ⟨by simp -implicitDefEqProofs only [op, ef, cl, sq, reduceIte, j2, j3, j4, j5, j6, j7, j8, j9, y1, S1, h0], by simp -implicitDefEqProofs only [op, ef, cl, sq, reduceIte, j2, j3, j4, j5, j6, j7, j8, j9, y1, S1, h1], by simp -implicitDefEqProofs only [op, ef, cl, sq, reduceIte, j2, j3, j4, j5, j6, j7, j8, j9, y1, S1, h2], by simp -implicitDefEqProofs only [op, ef, cl, sq, reduceIte, j2, j3, j4, j5, j6, j7, j8, j9, y1, S1], by simp -implicitDefEqProofs only [op, ef, cl, sq, reduceIte, j2, j3, j4, j5, j6, j7, j8, j9, y1, S1, h4], by simp -implicitDefEqProofs only [op, ef, cl, sq, reduceIte, j2, j3, j4, j5, j6, j7, j8, j9, y1, S1, h10], by simp -implicitDefEqProofs only [op, ef, cl, sq, reduceIte, j2, j3, j4, j5, j6, j7, j8, j9, y1, S1, h11], by simp -implicitDefEqProofs only [op, ef, cl, sq, reduceIte, j2, j3, j4, j5, j6, j7, j8, j9, y1, S1, h12]⟩ ⟨d2, hd2, hs2, e2, hfr.trans hf2 fun _ h => .inl h⟩
open Go.Sort in
theorem seg5O (A : C) (hA : (bkOf ir181.body 1).map (seqN · 5) = some A) (c n a b lim : Nat) (wb wp : Bool) (d : Array ByteArray) (pv : Nat) (hi : Hint) (R : Regs) (H0 H : Heap) (K : Out → Heap → Prop) (hp : PRO R c n a b lim wb wp) (h13 : R 11 = .int .i64 pv) (h14 : R 12 = .int .i64 (hintN hi)) (hd : SCO c n H0 (fun x => x = d) H) (hb : b ≤ n) (hab : a + 12 < b) (hs : n < 16777216) (hpv : a ≤ pv ∧ pv < b)
    (rest : ∀ R' H', PRO R' c n a b lim wb wp → R' 11 = .int .i64 (if hi = .decreasing then (b - 1) - (pv - a) else pv : Nat) → R' 12 = .int .i64 (hintN (if hi = .decreasing then Hint.increasing else hi)) → SCO c n H0 (fun x => x = if hi = .decreasing then reverseRange d a b else d) H' → K (.ex .normal R') H') : wpC env A R H K := by
  simp [ir181, bkOf, seqN, sq] at hA
  subst hA
  obtain ⟨h0, h1, h2, h3, h4, h10, h11, h12⟩ := hp
  obtain ⟨di, hc, hn, rfl, hfr⟩ := hd
  have e : ((hintN hi) == 2) = decide (hi = .decreasing) := by cases hi <;> decide
  by_cases hh : hi = .decreasing
  · rw [decide_eq_true hh] at e
    simp -implicitDefEqProofs (maxSteps := 1000000) (disch := omega) only [op, ef, cl, sq, reduceIte, j2, j3, j4, j5, j6, j7, j8, j9, y1, S1, h0, h1, h2, h3, h4, h10, h11, h12, h13, h14, e]
    refine callB_of _ _ _ _ _ _ _ _ (rev89 c n di a b _ hn hc hb (by omega) (by omega)) ?_
    rintro u H2 ⟨hu, d2, hd2, hs2, e2, hf2⟩
    cases hu
    simp -implicitDefEqProofs (maxSteps := 1000000) (disch := omega) only [natOf_nat, iadmO, ldm1O, ldm2O, stm0O, stm1O, stm2O, wA, wA1, wS, wS1, wM, S2, op, ef, cl, sq, reduceIte, j2, j3, j4, j5, j6, j7, j8, j9, y1, S1, h0, h1, h2, h3, h4, h10, h11, h12, h13, h14]
    refine rest _ _ ⟨?_, ?_, ?_, ?_, ?_, ?_, ?_, ?_⟩ ?_ ?_ ⟨d2, hd2, hs2, ?_, hfr.trans hf2 fun _ h => .inl h⟩
    all_goals simp -implicitDefEqProofs only [op, ef, cl, sq, reduceIte, j2, j3, j4, j5, j6, j7, j8, j9, y1, S1, h0, h1, h2, h3, h4, h10, h11, h12, if_pos hh, hintN]
    exact e2
  · rw [decide_eq_false hh] at e
    simp -implicitDefEqProofs (maxSteps := 1000000) (disch := omega) only [op, ef, cl, sq, reduceIte, j2, j3, j4, j5, j6, j7, j8, j9, y1, S1, h0, h1, h2, h3, h4, h10, h11, h12, h13, h14, e]
    refine rest _ _ ⟨?_, ?_, ?_, ?_, ?_, ?_, ?_, ?_⟩ ?_ ?_ ⟨di, hc, hn, ?_, hfr⟩
    all_goals simp -implicitDefEqProofs only [op, ef, cl, sq, reduceIte, j2, j3, j4, j5, j6, j7, j8, j9, y1, S1, h0, h1, h2, h3, h4, h10, h11, h12, h13, h14, if_neg hh]
open Go.Sort in
theorem seg6O (A : C) (hA : (bkOf ir181.body 1).map (seqN · 6) = some A) (c n a b lim : Nat) (wb wp : Bool) (d : Array ByteArray) (pv : Nat) (hi : Hint) (R : Regs) (H0 H : Heap) (K : Out → Heap → Prop) (hp : PRO R c n a b lim wb wp) (h13 : R 11 = .int .i64 pv) (h14 : R 12 = .int .i64 (hintN hi)) (hd : SCO c n H0 (fun x => x = d) H) (hb : b ≤ n) (hab : a + 12 < b) (hs : n < 16777216)
    (pi : Array ByteArray × Bool) (hpi : pi = if (wb && wp && hi = .increasing) = true then partialInsertionSort strLt d a b else (d, false))
    (rest1 : ∀ R' H', pi.2 = true → SCO c n H0 (fun x => x = pi.1) H' → K (.ex .ret R') H')
    (rest2 : ∀ R' H', pi.2 = false → PRO R' c n a b lim wb wp → R' 11 = .int .i64 pv → SCO c n H0 (fun x => x = pi.1) H' → K (.ex .normal R') H') : wpC env A R H K := by
  simp [ir181, bkOf, seqN, sq] at hA
  subst hA
  obtain ⟨h0, h1, h2, h3, h4, h10, h11, h12⟩ := hp
  obtain ⟨di, hc, hn, rfl, hfr⟩ := hd
  have e : ((hintN hi) == 1) = decide (hi = .increasing) := by cases hi <;> decide
  have no : (wb && wp && decide (hi = .increasing)) = false → ∀ R', PRO R' c n a b lim wb wp → R' 11 = .int .i64 pv → K (.ex .normal R') H := fun h R' q q' => rest2 R' H (by rw [hpi, h]; rfl) q q' ⟨di, hc, hn, by rw [hpi, h]; rfl, hfr⟩
  cases wb with
  | false =>
    simp -implicitDefEqProofs only [op, ef, cl, sq, reduceIte, j2, j3, j4, j5, j6, j7, j8, j9, y1, S1, h0, h1, h2, h3, h4, h10, h11, h12, h13, h14]
    refine no rfl _ ⟨?_, ?_, ?_, ?_, ?_, ?_, ?_, ?_⟩ ?_
    all_goals simp -implicitDefEqProofs only [op, ef, cl, sq, reduceIte, j2, j3, j4, j5, j6, j7, j8, j9, y1, S1, h0, h1, h2, h3, h4, h10, h11, h12, h13]
  | true =>
    cases wp with
    | false =>
      simp -implicitDefEqProofs only [op, ef, cl, sq, reduceIte, j2, j3, j4, j5, j6, j7, j8, j9, y1, S1, h0, h1, h2, h3, h4, h10, h11, h12, h13, h14]
      refine no rfl _ ⟨?_, ?_, ?_, ?_, ?_, ?_, ?_, ?_⟩ ?_
      all_goals simp -implicitDefEqProofs only [op, ef, cl, sq, reduceIte, j2, j3, j4, j5, j6, j7, j8, j9, y1, S1, h0, h1, h2, h3, h4, h10, h11, h12, h13]
    | true =>
      by_cases hh : hi = .increasing
      · rw [decide_eq_true hh] at e
        rw [decide_eq_true hh] at hpi
        simp -implicitDefEqProofs only [op, ef, cl, sq, reduceIte, j2, j3, j4, j5, j6, j7, j8, j9, y1, S1, h0, h1, h2, h3, h4, h10, h11, h12, h13, h14, e]
        refine callB_of _ _ _ _ _ _ _ _ (pins90 c n di a b _ hn hc hb (by omega) (by omega)) ?_
        rintro u H2 ⟨hu, d2, hd2, hs2, e2, hf2⟩
        cases hu
        rw [if_pos (show (true && true && true) = true from rfl)] at hpi
        rw [← hpi] at e2 ⊢
        cases hb2 : pi.2 with
        | true =>
          try simp -implicitDefEqProofs only [op, ef, cl, sq, reduceIte, j2, j3, j4, j5, j6, j7, j8, j9, y1, S1]
          exact rest1 _ _ hb2 ⟨d2, hd2, hs2, e2, hfr.trans hf2 fun _ h => .inl h⟩
        | false =>
          try simp -implicitDefEqProofs only [op, ef, cl, sq, reduceIte, j2, j3, j4, j5, j6, j7, j8, j9, y1, S1]
          refine rest2 _ _ hb2 ⟨?_, ?_, ?_, ?_, ?_, ?_, ?_, ?_⟩ ?_ ⟨d2, hd2, hs2, e2, hfr.trans hf2 fun _ h => .inl h⟩
          all_goals simp -implicitDefEqProofs only [op, ef, cl, sq, reduceIte, j2, j3, j4, j5, j6, j7, j8, j9, y1, S1, h0, h1, h2, h3, h4, h10, h11, h12, h13]
      · rw [decide_eq_false hh] at e
        simp -implicitDefEqProofs only [op, ef, cl, sq, reduceIte, j2, j3, j4, j5, j6, j7, j8, j9, y1, S1, h0, h1, h2, h3, h4, h10, h11, h12, h13, h14, e]
        refine no (by rw [decide_eq_false hh]; rfl) _ ⟨?_, ?_, ?_, ?_, ?_, ?_, ?_, ?_⟩ ?_
        all_goals simp -implicitDefEqProofs only [op, ef, cl, sq, reduceIte, j2, j3, j4, j5, j6, j7, j8, j9, y1, S1, h0, h1, h2, h3, h4, h10, h11, h12, h13]
open Go.Sort in
theorem seg7O (A : C) (hA : (bkOf ir181.body 1).map (seqN · 7) = some A) (c n a b lim : Nat) (wb wp : Bool) (d : Array ByteArray) (pv : Nat) (R : Regs) (H0 H : Heap) (K : Out → Heap → Prop) (hp : PRO R c n a b lim wb wp) (h13 : R 11 = .int .i64 pv) (hd : SCO c n H0 (fun x => x = d) H) (hb : b ≤ n) (hab : a + 12 < b) (hs : n < 16777216) (hpv : a ≤ pv ∧ pv < b)
    (rest1 : ∀ R' H', (a > 0 && !strLt d[a - 1]! d[pv]!) = true → R' 0 = .msl c 0 n 1 → R' 1 = .int .i64 (partitionEqual strLt d a b pv).1 → R' 2 = .int .i64 b → R' 3 = .int .i64 lim → R' 0 = .msl c 0 n 1 → R' 8 = .bool wb → R' 9 = .bool wp → SCO c n H0 (fun x => x = (partitionEqual strLt d a b pv).2) H' → K (.ex (.exit 1) R') H')
    (rest2 : ∀ R' H', (a > 0 && !strLt d[a - 1]! d[pv]!) = false → PRO R' c n a b lim wb wp → R' 11 = .int .i64 pv → SCO c n H0 (fun x => x = d) H' → K (.ex .normal R') H') : wpC env A R H K := by
  simp [ir181, bkOf, seqN, sq] at hA
  subst hA
  obtain ⟨h0, h1, h2, h3, h4, h10, h11, h12⟩ := hp
  obtain ⟨di, hd, hn, rfl, hfr⟩ := hd
  have lc := glt hd
  by_cases ha : 0 < a
  · simp -implicitDefEqProofs (maxSteps := 1000000) (disch := omega) only [natOf_nat, iadmO, ldm1O, ldm2O, stm0O, stm1O, stm2O, wA, wA1, wS, wS1, wM, S2, op, ef, cl, sq, reduceIte, j2, j3, j4, j5, j6, j7, j8, j9, y1, S1, h0, h1, h2, h3, h4, h10, h11, h12, h13, ha, hd, lc]
    refine callB_of _ _ _ _ _ _ _ _ (less91 di[a - 1]! di[pv]! _) ?_
    rintro u H3 ⟨hu, hx0⟩
    cases hu
    have hx : Ext H H3 := by rw [hx0]; exact Ext.rfl'
    have hd := hx.get hd
    have lc := glt hd
    have hfr := hfr.trans (ext_frm (F := fun _ => False) hx) (fun _ h => h.elim)
    have lt1 : strLt di[a - 1]! di[pv]! = decide (strLt di[a - 1]! di[pv]! = true) := by simp
    by_cases c1 : strLt di[a - 1]! di[pv]! = true
    · simp -implicitDefEqProofs (maxSteps := 1000000) (disch := omega) only [natOf_nat, iadmO, ldm1O, ldm2O, stm0O, stm1O, stm2O, wA, wA1, wS, wS1, wM, S2, op, ef, cl, sq, reduceIte, j2, j3, j4, j5, j6, j7, j8, j9, y1, S1, h0, h1, h2, h3, h4, h10, h11, h12, h13, ha, hd, lc, c1]
      refine rest2 _ _ (by rw [lt1, dect c1]; simp) ⟨?_, ?_, ?_, ?_, ?_, ?_, ?_, ?_⟩ ?_ ⟨di, hd, hn, rfl, hfr⟩
      all_goals simp -implicitDefEqProofs only [op, ef, cl, sq, reduceIte, j2, j3, j4, j5, j6, j7, j8, j9, y1, S1, h0, h1, h2, h3, h4, h10, h11, h12, h13]
    · simp -implicitDefEqProofs (maxSteps := 1000000) (disch := omega) only [natOf_nat, iadmO, ldm1O, ldm2O, stm0O, stm1O, stm2O, wA, wA1, wS, wS1, wM, S2, op, ef, cl, sq, reduceIte, j2, j3, j4, j5, j6, j7, j8, j9, y1, S1, h0, h1, h2, h3, h4, h10, h11, h12, h13, ha, hd, lc, c1]
      refine callB_of _ _ _ _ _ _ _ _ (peq92 c n di a b pv _ hn hd hb (by omega) (by omega) (by omega)) ?_
      rintro u H4 ⟨hu, d2, hd2, hs2, e2, hf2⟩
      cases hu
      try simp -implicitDefEqProofs only [op, ef, cl, sq, reduceIte, j2, j3, j4, j5, j6, j7, j8, j9, y1, S1]
      refine rest1 _ _ (by rw [lt1, decf c1]; simp; exact ha) ?_ ?_ ?_ ?_ ?_ ?_ ?_ ⟨d2, hd2, hs2, e2, hfr.trans hf2 fun _ h => .inl h⟩
      all_goals simp -implicitDefEqProofs only [op, ef, cl, sq, reduceIte, j2, j3, j4, j5, j6, j7, j8, j9, y1, S1, h0, h1, h2, h3, h4, h10, h11, h12, h13]
  · simp -implicitDefEqProofs only [op, ef, cl, sq, reduceIte, j2, j3, j4, j5, j6, j7, j8, j9, y1, S1, h0, h1, h2, h3, h4, h10, h11, h12, h13, ha]
    refine rest2 _ _ (by rw [decide_eq_false ha]; rfl) ⟨?_, ?_, ?_, ?_, ?_, ?_, ?_, ?_⟩ ?_ ⟨di, hd, hn, rfl, hfr⟩
    all_goals simp -implicitDefEqProofs only [op, ef, cl, sq, reduceIte, j2, j3, j4, j5, j6, j7, j8, j9, y1, S1, h0, h1, h2, h3, h4, h10, h11, h12, h13]
open Go.Sort in
theorem pdq_stepO {d d1 d2 : Array ByteArray} {a b lim lim1 pv : Nat} {wb wp : Bool} {cp : Nat × Hint} {hi : Hint} {pi : Array ByteArray × Bool} (h12 : ¬ b - a ≤ 12) (hl : ¬ lim = 0)
    (e1 : d1 = if (!wb) = true then breakPatterns d a b else d) (el : lim1 = if (!wb) = true then lim - 1 else lim) (ec : cp = choosePivot strLt d1 a b) (e2 : d2 = if cp.2 = .decreasing then reverseRange d1 a b else d1)
    (ep : pv = if cp.2 = .decreasing then (b - 1) - (cp.1 - a) else cp.1) (eh : hi = if cp.2 = .decreasing then .increasing else cp.2) (epi : pi = if (wb && wp && hi = .increasing) = true then partialInsertionSort strLt d2 a b else (d2, false)) :
    pdq strLt d a b lim wb wp = if pi.2 = true then pi.1 else if (a > 0 && !strLt pi.1[a - 1]! pi.1[pv]!) = true then (if a < (partitionEqual strLt pi.1 a b pv).1 ∧ (partitionEqual strLt pi.1 a b pv).1 ≤ b then pdq strLt (partitionEqual strLt pi.1 a b pv).2 (partitionEqual strLt pi.1 a b pv).1 b lim1 wb wp else (partitionEqual strLt pi.1 a b pv).2)
      else (if a ≤ (partition strLt pi.1 a b pv).1 ∧ (partition strLt pi.1 a b pv).1 < b then if (partition strLt pi.1 a b pv).1 - a < b - (partition strLt pi.1 a b pv).1 then pdq strLt (pdq strLt (partition strLt pi.1 a b pv).2.2 a (partition strLt pi.1 a b pv).1 lim1 true true) ((partition strLt pi.1 a b pv).1 + 1) b lim1 (decide ((partition strLt pi.1 a b pv).1 - a ≥ (b - a) / 8)) (partition strLt pi.1 a b pv).2.1
        else pdq strLt (pdq strLt (partition strLt pi.1 a b pv).2.2 ((partition strLt pi.1 a b pv).1 + 1) b lim1 true true) a (partition strLt pi.1 a b pv).1 lim1 (decide (b - (partition strLt pi.1 a b pv).1 ≥ (b - a) / 8)) (partition strLt pi.1 a b pv).2.1 else (partition strLt pi.1 a b pv).2.2) := by
  subst epi eh ep e2 ec el e1
  rw [pdq, if_neg h12, if_neg hl]
  rfl
open Go.Sort in
theorem peq_rangeO (d : Array ByteArray) {a b pv : Nat} (h1 : a ≤ pv) (h2 : pv < b) (hb : b ≤ d.size) : a < (partitionEqual strLt d a b pv).1 ∧ (partitionEqual strLt d a b pv).1 ≤ b := by
  have := partEqLoop_spec (lt := strLt) a b b (a + 1) (b - 1) (swp d a pv) (by omega) (by omega) (by omega) (by omega) (by rw [swp_size]; exact hb) (fun t h h' => by omega) (fun t h h' => by omega)
  exact ⟨this.1, this.2.1⟩
open Go.Sort in
theorem seg0O (A : C) (hA : (bkOf ir181.body 1).map (seqN · 0) = some A) (c n a b lim : Nat) (wb wp : Bool) (R : Regs) (H : Heap) (K : Out → Heap → Prop) (h0 : R 0 = .msl c 0 n 1) (h1 : R 1 = .int .i64 a) (h2 : R 2 = .int .i64 b) (h3 : R 3 = .int .i64 lim) (h4 : R 0 = .msl c 0 n 1) (h10 : R 8 = .bool wb) (h11 : R 9 = .bool wp) (hab : a ≤ b) (hb : b < 16777216)
    (rest : ∀ R', PRO R' c n a b lim wb wp → K (.ex .normal R') H) : wpC env A R H K := by
  simp [ir181, bkOf, seqN, sq] at hA
  subst hA
  simp -implicitDefEqProofs (maxSteps := 1000000) (disch := omega) only [natOf_nat, iadmO, ldm1O, ldm2O, stm0O, stm1O, stm2O, wA, wA1, wS, wS1, wM, S2, op, ef, cl, sq, reduceIte, j2, j3, j4, j5, j6, j7, j8, j9, y1, S1, h0, h1, h2, h3, h4, h10, h11]
  refine rest _ ⟨?_, ?_, ?_, ?_, ?_, ?_, ?_, ?_⟩
  all_goals simp -implicitDefEqProofs only [op, ef, cl, sq, reduceIte, j2, j3, j4, j5, j6, j7, j8, j9, y1, S1, h0, h1, h2, h3, h4, h10, h11]
open Go.Sort in
theorem seg1O (A : C) (hA : (bkOf ir181.body 1).map (seqN · 1) = some A) (c n a b lim : Nat) (wb wp : Bool) (d : Array ByteArray) (R : Regs) (H0 H : Heap) (K : Out → Heap → Prop) (hp : PRO R c n a b lim wb wp) (hd : SCO c n H0 (fun x => x = d) H) (hb : b ≤ n) (hab : a ≤ b) (hs : n < 16777216)
    (rest1 : ∀ R' H', b - a ≤ 12 → SCO c n H0 (fun x => x = insertionSort strLt d a b) H' → K (.ex .ret R') H')
    (rest2 : ∀ R', ¬ b - a ≤ 12 → PRO R' c n a b lim wb wp → K (.ex .normal R') H) : wpC env A R H K := by
  simp [ir181, bkOf, seqN, sq] at hA
  subst hA
  obtain ⟨h0, h1, h2, h3, h4, h10, h11, h12⟩ := hp
  obtain ⟨di, hc, hn, rfl, hfr⟩ := hd
  by_cases hle : b - a ≤ 12
  · simp -implicitDefEqProofs only [op, ef, cl, sq, reduceIte, j2, j3, j4, j5, j6, j7, j8, j9, y1, S1, h0, h1, h2, h3, h4, h10, h11, h12, hle]
    have hi := ins85 c di a b H hc (by omega) hab (by omega)
    rw [hn] at hi
    refine callB_of _ _ _ _ _ _ _ _ hi ?_
    rintro u H2 ⟨hu, hd2, hf2⟩
    cases hu
    try simp -implicitDefEqProofs only [op, ef, cl, sq, reduceIte, j2, j3, j4, j5, j6, j7, j8, j9, y1, S1]
    exact rest1 _ _ hle ⟨_, hd2, by rw [(insertionSort_holds strLt_swo di a b hab (by omega)).1.1]; exact hn, rfl, hfr.trans hf2 fun _ h => .inl h⟩
  · simp -implicitDefEqProofs only [op, ef, cl, sq, reduceIte, j2, j3, j4, j5, j6, j7, j8, j9, y1, S1, h0, h1, h2, h3, h4, h10, h11, h12, hle]
    refine rest2 _ hle ⟨?_, ?_, ?_, ?_, ?_, ?_, ?_, ?_⟩
    all_goals simp -implicitDefEqProofs only [op, ef, cl, sq, reduceIte, j2, j3, j4, j5, j6, j7, j8, j9, y1, S1, h0, h1, h2, h3, h4, h10, h11, h12]
open Go.Sort in
theorem seg2O (A : C) (hA : (bkOf ir181.body 1).map (seqN · 2) = some A) (c n a b lim : Nat) (wb wp : Bool) (d : Array ByteArray) (R : Regs) (H0 H : Heap) (K : Out → Heap → Prop) (hp : PRO R c n a b lim wb wp) (hd : SCO c n H0 (fun x => x = d) H) (hb : b ≤ n) (hab : a + 12 < b) (hs : n < 16777216)
    (rest1 : ∀ R' H', lim = 0 → SCO c n H0 (fun x => x = heapSort strLt d a b) H' → K (.ex .ret R') H')
    (rest2 : ∀ R', ¬ lim = 0 → PRO R' c n a b lim wb wp → K (.ex .normal R') H) : wpC env A R H K := by
  simp [ir181, bkOf, seqN, sq] at hA
  subst hA
  obtain ⟨h0, h1, h2, h3, h4, h10, h11, h12⟩ := hp
  obtain ⟨di, hc, hn, rfl, hfr⟩ := hd
  by_cases hl : lim = 0
  · subst hl
    have e : (((0 : Nat) : Int) == 0) = true := rfl
    simp -implicitDefEqProofs only [op, ef, cl, sq, reduceIte, j2, j3, j4, j5, j6, j7, j8, j9, y1, S1, h0, h1, h2, h3, h4, h10, h11, h12, e]
    refine callB_of _ _ _ _ _ _ _ _ (heap86 c n di a b _ hn hc hb (by omega) (by omega)) ?_
    rintro u H2 ⟨hu, d2, hd2, hs2, e2, hf2⟩
    cases hu
    try simp -implicitDefEqProofs only [op, ef, cl, sq, reduceIte, j2, j3, j4, j5, j6, j7, j8, j9, y1, S1]
    exact rest1 _ _ rfl ⟨_, hd2, hs2, e2, hfr.trans hf2 fun _ h => .inl h⟩
  · have e : ((lim : Int) == 0) = false := by simp; omega
    simp -implicitDefEqProofs only [op, ef, cl, sq, reduceIte, j2, j3, j4, j5, j6, j7, j8, j9, y1, S1, h0, h1, h2, h3, h4, h10, h11, h12, e]
    refine rest2 _ hl ⟨?_, ?_, ?_, ?_, ?_, ?_, ?_, ?_⟩
    all_goals simp -implicitDefEqProofs only [op, ef, cl, sq, reduceIte, j2, j3, j4, j5, j6, j7, j8, j9, y1, S1, h0, h1, h2, h3, h4, h10, h11, h12]
open Go.Sort in
theorem seg4O (A : C) (hA : (bkOf ir181.body 1).map (seqN · 4) = some A) (c n a b lim : Nat) (wb wp : Bool) (d : Array ByteArray) (R : Regs) (H0 H : Heap) (K : Out → Heap → Prop) (hp : PRO R c n a b lim wb wp) (hd : SCO c n H0 (fun x => x = d) H) (hb : b ≤ n) (hab : a + 12 < b) (hs : n < 16777216)
    (rest : ∀ R' H', PRO R' c n a b lim wb wp → R' 11 = .int .i64 (choosePivot strLt d a b).1 → R' 12 = .int .i64 (hintN (choosePivot strLt d a b).2) → SCO c n H0 (fun x => x = d) H' → K (.ex .normal R') H') : wpC env A R H K := by
  simp [ir181, bkOf, seqN, sq] at hA
  subst hA
  obtain ⟨h0, h1, h2, h3, h4, h10, h11, h12⟩ := hp
  obtain ⟨di, hc, hn, rfl, hfr⟩ := hd
  simp -implicitDefEqProofs only [op, ef, cl, sq, reduceIte, j2, j3, j4, j5, j6, j7, j8, j9, y1, S1, h0, h1, h2, h3, h4, h10, h11, h12]
  refine callB_of _ _ _ _ _ _ _ _ (choose88 c n di a b _ hn hc hb hab (by omega)) ?_
  rintro u H2 ⟨hu, hx⟩
  cases hu
  try simp -implicitDefEqProofs only [op, ef, cl, sq, reduceIte, j2, j3, j4, j5, j6, j7, j8, j9, y1, S1]
  refine rest _ _ ⟨?_, ?_, ?_, ?_, ?_, ?_, ?_, ?_⟩ ?_ ?_ ⟨di, hx.get hc, hn, rfl, hfr.trans (ext_frm (F := fun _ => False) hx) (fun _ h => h.elim)⟩
  all_goals simp -implicitDefEqProofs only [op, ef, cl, sq, reduceIte, j2, j3, j4, j5, j6, j7, j8, j9, y1, S1, h0, h1, h2, h3, h4, h10, h11, h12]
open Go.Sort in
theorem seg8O (A : C) (hA : (bkOf ir181.body 1).map (seqT · 8) = some A) (c n a b lim : Nat) (wb wp : Bool) (d : Array ByteArray) (pv : Nat) (R : Regs) (H0 H : Heap) (K : Out → Heap → Prop) (hp : PRO R c n a b lim wb wp) (h13 : R 11 = .int .i64 pv) (hd : SCO c n H0 (fun x => x = d) H) (hb : b ≤ n) (hab : a + 12 < b) (hs : n < 16777216) (hpv : a ≤ pv ∧ pv < b)
    (ih : ∀ a' b' (d' : Array ByteArray) H', b' - a' < b - a → a' ≤ b' → b' ≤ n → d'.size = n → H'[c]? = some (.cells (msC eS d'.toList)) → W env (.call 181 [.msl c 0 n 1, .int .i64 a', .int .i64 b', .int .i64 lim]) H' (SrtNO c n (pdq strLt d' a' b' lim true true) H'))
    (rest : ∀ R' H' a' b' (d' : Array ByteArray) (wb' : Bool), a ≤ a' → a' ≤ b' → b' ≤ b → b' - a' < b - a → R' 0 = .msl c 0 n 1 → R' 1 = .int .i64 (a' : Nat) → R' 2 = .int .i64 (b' : Nat) → R' 3 = .int .i64 lim → R' 0 = .msl c 0 n 1 → R' 8 = .bool wb' → R' 9 = .bool (partition strLt d a b pv).2.1 →
      pdq strLt d' a' b' lim wb' (partition strLt d a b pv).2.1 = (if (partition strLt d a b pv).1 - a < b - (partition strLt d a b pv).1 then pdq strLt (pdq strLt (partition strLt d a b pv).2.2 a (partition strLt d a b pv).1 lim true true) ((partition strLt d a b pv).1 + 1) b lim (decide ((partition strLt d a b pv).1 - a ≥ (b - a) / 8)) (partition strLt d a b pv).2.1
        else pdq strLt (pdq strLt (partition strLt d a b pv).2.2 ((partition strLt d a b pv).1 + 1) b lim true true) a (partition strLt d a b pv).1 lim (decide (b - (partition strLt d a b pv).1 ≥ (b - a) / 8)) (partition strLt d a b pv).2.1) →
      SCO c n H0 (fun x => x = d') H' → K (.ex .normal R') H') : wpC env A R H K := by
  simp [ir181, bkOf, seqT, sq] at hA
  subst hA
  obtain ⟨h0, h1, h2, h3, h4, h10, h11, h12⟩ := hp
  obtain ⟨di, hc, hn, rfl, hfr⟩ := hd
  have hrg := partition_holds strLt strLt_swo di a b pv hpv.1 hpv.2 (by omega)
  simp -implicitDefEqProofs only [op, ef, cl, sq, reduceIte, j2, j3, j4, j5, j6, j7, j8, j9, y1, S1, h0, h1, h2, h3, h4, h10, h11, h12, h13]
  refine callB_of _ _ _ _ _ _ _ _ (part93 c n di a b pv _ hn hc hb (by omega) (by omega) (by omega)) ?_
  rintro u H2 ⟨hu, d2, hd2, hs2, e2, hf2⟩
  cases hu
  generalize partition strLt di a b pv = r at *
  obtain ⟨mid, ap, d4⟩ := r
  simp only at hrg e2 rest ⊢
  subst e2
  obtain ⟨m1, m2, _⟩ := hrg
  have hfr2 := hfr.trans hf2 fun _ h => .inl h
  by_cases hlt : mid - a < b - mid
  · rw [if_pos hlt] at rest
    simp -implicitDefEqProofs (maxSteps := 1000000) (disch := omega) only [natOf_nat, iadmO, ldm1O, ldm2O, stm0O, stm1O, stm2O, wA, wA1, wS, wS1, wM, S2, op, ef, cl, sq, reduceIte, j2, j3, j4, j5, j6, j7, j8, j9, y1, S1, wQ8, h0, h1, h2, h3, h4, h10, h11, h12, h13, hlt]
    refine callB_of _ _ _ _ _ _ _ _ (ih a mid d2 _ (by omega) m1 (by omega) hs2 hd2) ?_
    rintro u H3 ⟨hu, d3, hd3, hs3, e3, hf3⟩
    cases hu
    simp -implicitDefEqProofs (maxSteps := 1000000) (disch := omega) only [natOf_nat, iadmO, ldm1O, ldm2O, stm0O, stm1O, stm2O, wA, wA1, wS, wS1, wM, S2, op, ef, cl, sq, reduceIte, j2, j3, j4, j5, j6, j7, j8, j9, y1, S1, h0, h1, h2, h3, h4, h10, h11, h12, h13]
    refine rest _ _ (mid + 1) b d3 (decide ((b - a) / 8 ≤ mid - a)) (by omega) (by omega) (Nat.le_refl _) (by omega) ?_ ?_ ?_ ?_ ?_ ?_ ?_ (by rw [e3]) ⟨d3, hd3, hs3, rfl, hfr2.trans hf3 fun _ h => .inl h⟩
    all_goals simp -implicitDefEqProofs only [op, ef, cl, sq, reduceIte, j2, j3, j4, j5, j6, j7, j8, j9, y1, S1, h0, h1, h2, h3, h4, h10, h11, h12]
  · rw [if_neg hlt] at rest
    simp -implicitDefEqProofs (maxSteps := 1000000) (disch := omega) only [natOf_nat, iadmO, ldm1O, ldm2O, stm0O, stm1O, stm2O, wA, wA1, wS, wS1, wM, S2, op, ef, cl, sq, reduceIte, j2, j3, j4, j5, j6, j7, j8, j9, y1, S1, wQ8, h0, h1, h2, h3, h4, h10, h11, h12, h13, hlt]
    refine callB_of _ _ _ _ _ _ _ _ (ih (mid + 1) b d2 _ (by omega) m2 (by omega) hs2 hd2) ?_
    rintro u H3 ⟨hu, d3, hd3, hs3, e3, hf3⟩
    cases hu
    simp -implicitDefEqProofs (maxSteps := 1000000) (disch := omega) only [natOf_nat, iadmO, ldm1O, ldm2O, stm0O, stm1O, stm2O, wA, wA1, wS, wS1, wM, S2, op, ef, cl, sq, reduceIte, j2, j3, j4, j5, j6, j7, j8, j9, y1, S1, h0, h1, h2, h3, h4, h10, h11, h12, h13]
    refine rest _ _ a mid d3 (decide ((b - a) / 8 ≤ b - mid)) (by omega) (by omega) (by omega) (by omega) ?_ ?_ ?_ ?_ ?_ ?_ ?_ (by rw [e3]) ⟨d3, hd3, hs3, rfl, hfr2.trans hf3 fun _ h => .inl h⟩
    all_goals simp -implicitDefEqProofs only [op, ef, cl, sq, reduceIte, j2, j3, j4, j5, j6, j7, j8, j9, y1, S1, h0, h1, h2, h3, h4, h10, h11, h12]
open Go.Sort in
theorem pdq69 (c n : Nat) (hs : n < 16777216) : ∀ m a b lim (d : Array ByteArray) H, b - a = m → a ≤ b → b ≤ n → lim < 1000 → d.size = n → H[c]? = some (.cells (msC eS d.toList)) →
    W env (.call 181 [.msl c 0 n 1, .int .i64 (a : Nat), .int .i64 (b : Nat), .int .i64 (lim : Nat)]) H (SrtNO c n (pdq strLt d a b lim true true) H) := by
  intro m
  induction m using Nat.strongRecOn with
  | _ m ih =>
  intro a b lim d H hm hab hb hlim hn hc
  subst hm
  refine W.fnI rfl rfl rfl ?_
  simp -implicitDefEqProofs only [ir181, op, ef, cl, sq, reduceIte, j2, j3, j4, j5, j6, j7, j8, j9, y1, S1]
  refine W.loopI (fun (q : Nat × Nat × Nat × Bool × Bool) R H' => At H' (fun H' => SCO c n H (fun di => pdq strLt di q.1 q.2.1 q.2.2.1 q.2.2.2.1 q.2.2.2.2 = pdq strLt d a b lim true true) H') ∧ R 0 = .msl c 0 n 1 ∧ R 1 = .int .i64 q.1 ∧ R 2 = .int .i64 q.2.1 ∧ R 3 = .int .i64 q.2.2.1 ∧ R 0 = .msl c 0 n 1 ∧ R 8 = .bool q.2.2.2.1 ∧ R 9 = .bool q.2.2.2.2 ∧ a ≤ q.1 ∧ q.1 ≤ q.2.1 ∧ q.2.1 ≤ b ∧ q.2.2.1 ≤ lim) (fun q => q.2.1 - q.1) (a, b, lim, true, true) ⟨.i ⟨d, hc, hn, rfl, Frm.refl _ _⟩, rfl, rfl, rfl, rfl, rfl, rfl, rfl, Nat.le_refl _, hab, Nat.le_refl _, Nat.le_refl _⟩ ?_
  rintro ⟨a1, b1, l1, wb, wp⟩ R H1 ⟨⟨di, hd, hsz, hP, hfr⟩, h0, h1, h2, h3, h4, h10, h11, q1, q2, q3, q4⟩
  simp only at hP h1 h2 h3 h10 h11 q1 q2 q3 q4 ⊢
  rw [c_block, c_seq]
  refine seg0O _ rfl c n a1 b1 l1 wb wp R H1 _ h0 h1 h2 h3 h4 h10 h11 q2 (by omega) ?_
  intro R1 p1
  rw [then_n, cont_ap, c_seq]
  refine seg1O _ rfl c n a1 b1 l1 wb wp di R1 H H1 _ p1 ⟨di, hd, hsz, rfl, hfr⟩ (by omega) q2 hs ?_ ?_
  · rintro R' H' hle ⟨d', hd', hs', rfl, hf'⟩
    rw [pdq, if_pos hle] at hP
    try simp -implicitDefEqProofs only [op, ef, cl, sq, reduceIte, j2, j3, j4, j5, j6, j7, j8, j9, y1, S1]
    exact ⟨rfl, _, hd', hs', hP, hf'⟩
  intro R2 h12 p2
  rw [then_n, cont_ap, c_seq]
  refine seg2O _ rfl c n a1 b1 l1 wb wp di R2 H H1 _ p2 ⟨di, hd, hsz, rfl, hfr⟩ (by omega) (by omega) hs ?_ ?_
  · rintro R' H' hl0 ⟨d', hd', hs', rfl, hf'⟩
    rw [pdq, if_neg h12, if_pos hl0] at hP
    try simp -implicitDefEqProofs only [op, ef, cl, sq, reduceIte, j2, j3, j4, j5, j6, j7, j8, j9, y1, S1]
    exact ⟨rfl, _, hd', hs', hP, hf'⟩
  intro R3 hl0 p3
  rw [then_n, cont_ap, c_seq]
  refine seg3O _ rfl c n a1 b1 l1 wb wp di R3 H H1 _ p3 ⟨di, hd, hsz, rfl, hfr⟩ (by omega) (by omega) hs (by omega) ?_
  rintro R4 H4 p4 ⟨d1, hd4, hs4, e1, hf4⟩
  obtain ⟨lim1, el⟩ : ∃ l, l = if (!wb) = true then l1 - 1 else l1 := ⟨_, rfl⟩
  have hll : lim1 ≤ l1 := by rw [el]; split <;> omega
  rw [← el] at p4
  rw [then_n, cont_ap, c_seq]
  refine seg4O _ rfl c n a1 b1 lim1 wb wp d1 R4 H H4 _ p4 ⟨d1, hd4, hs4, rfl, hf4⟩ (by omega) (by omega) hs ?_
  rintro R5 H5 p5 h13 h14 ⟨d1', hd5, hs5, e1', hf5⟩
  subst e1'
  have hcr := choosePivot_holds strLt d1' a1 b1 (by omega)
  obtain ⟨cp, ec⟩ : ∃ x, x = choosePivot strLt d1' a1 b1 := ⟨_, rfl⟩
  rw [← ec] at h13 h14 hcr
  rw [then_n, cont_ap, c_seq]
  refine seg5O _ rfl c n a1 b1 lim1 wb wp d1' cp.1 cp.2 R5 H H5 _ p5 h13 h14 ⟨d1', hd5, hs5, rfl, hf5⟩ (by omega) (by omega) hs hcr ?_
  rintro R6 H6 p6 h13 h14 ⟨d2, hd6, hs6, e2, hf6⟩
  obtain ⟨pv, ep⟩ : ∃ x, x = if cp.2 = .decreasing then (b1 - 1) - (cp.1 - a1) else cp.1 := ⟨_, rfl⟩
  obtain ⟨hi, eh⟩ : ∃ x, x = if cp.2 = .decreasing then Hint.increasing else cp.2 := ⟨_, rfl⟩
  rw [← ep] at h13
  rw [← eh] at h14
  have hpv : a1 ≤ pv ∧ pv < b1 := by rw [ep]; split <;> omega
  rw [then_n, cont_ap, c_seq]
  obtain ⟨pi, epi⟩ : ∃ x, x = if (wb && wp && hi = .increasing) = true then partialInsertionSort strLt d2 a1 b1 else (d2, false) := ⟨_, rfl⟩
  rw [pdq_stepO h12 hl0 e1 el ec e2 ep eh epi] at hP
  refine seg6O _ rfl c n a1 b1 lim1 wb wp d2 pv hi R6 H H6 _ p6 h13 h14 ⟨d2, hd6, hs6, rfl, hf6⟩ (by omega) (by omega) hs pi epi ?_ ?_
  · rintro R' H' hpt ⟨d', hd', hs', rfl, hf'⟩
    rw [if_pos hpt] at hP
    try simp -implicitDefEqProofs only [op, ef, cl, sq, reduceIte, j2, j3, j4, j5, j6, j7, j8, j9, y1, S1]
    exact ⟨rfl, _, hd', hs', hP, hf'⟩
  rintro R7 H7 hpf p7 h13 ⟨d3, hd7, hs7, e3, hf7⟩
  rw [if_neg (by rw [hpf]; simp), ← e3] at hP
  rw [then_n, cont_ap, c_seq]
  refine seg7O _ rfl c n a1 b1 lim1 wb wp d3 pv R7 H H7 _ p7 h13 ⟨d3, hd7, hs7, rfl, hf7⟩ (by omega) (by omega) hs hpv ?_ ?_
  · rintro R' H' hgt g0 g1 g2 g3 g4 g10 g11 ⟨d', hd', hs', e', hf'⟩
    have hr := peq_rangeO d3 hpv.1 hpv.2 (by omega)
    rw [if_pos hgt, if_pos hr, ← e'] at hP
    try simp -implicitDefEqProofs only [op, ef, cl, sq, reduceIte, j2, j3, j4, j5, j6, j7, j8, j9, y1, S1]
    exact ⟨((partitionEqual strLt d3 a1 b1 pv).1, b1, lim1, wb, wp), by simp only; omega, .i ⟨_, hd', hs', hP, hf'⟩, g0, g1, g2, g3, g4, g10, g11, by simp only; omega, by simp only; omega, by simp only; omega, by simp only; omega⟩
  rintro R8 H8 hgt p8 h13 ⟨d3', hd8, hs8, e3', hf8⟩
  subst e3'
  have hr := partition_holds strLt strLt_swo d3' a1 b1 pv hpv.1 hpv.2 (by omega)
  rw [if_neg (by rw [hgt]; simp), if_pos ⟨hr.1, hr.2.1⟩] at hP
  rw [then_n, cont_ap]
  refine seg8O _ rfl c n a1 b1 lim1 wb wp d3' pv R8 H H8 _ p8 h13 ⟨d3', hd8, hs8, rfl, hf8⟩ (by omega) (by omega) hs hpv (fun a' b' d' H' hlt ha' hb' hs' hc' => ih _ (by omega) a' b' lim1 d' H' rfl ha' hb' (by omega) hs' hc') ?_
  rintro R' H' a' b' d' wb' ha' hab' hb' hlt g0 g1 g2 g3 g4 g10 g11 e' ⟨d'', hd', hs', rfl, hf'⟩
  try simp -implicitDefEqProofs only [op, ef, cl, sq, reduceIte, j2, j3, j4, j5, j6, j7, j8, j9, y1, S1]
  exact ⟨(a', b', lim1, wb', (partition strLt d3' a1 b1 pv).2.1), by simp only; omega, .i ⟨_, hd', hs', by simp only; rw [e']; exact hP, hf'⟩, g0, g1, g2, g3, g4, g10, g11, by simp only; omega, hab', by simp only; omega, by simp only; omega⟩
open Go.Sort in
theorem sortO55 (c : Nat) (d : Array ByteArray) (H : Heap) (hc : H[c]? = some (.cells (msC eS d.toList))) (hs : d.size < 16777216) :
    W env (.call 152 [.msl c 0 d.size 1]) H (SrtNO c d.size (sort strLt d) H) := by
  refine W.fnI rfl rfl rfl ?_
  have w1 : IntKind.u64.wrap (d.size : Int) = (d.size : Int) := wrapu (by omega)
  simp -implicitDefEqProofs only [ir152, op, ef, cl, sq, reduceIte, j2, j3, j4, j5, j6, j7, j8, j9, y1, S1, w1]
  refine callB_of _ _ _ _ _ _ _ _ (len65 d.size hs _) ?_
  rintro u H1 ⟨hu, rfl⟩
  cases hu
  have hb := bits_lt (n := d.size) (k := 24) hs
  try simp -implicitDefEqProofs only [op, ef, cl, sq, reduceIte, j2, j3, j4, j5, j6, j7, j8, j9, y1, S1]
  refine callB_of _ _ _ _ _ _ _ _ (pdq69 c d.size hs _ 0 d.size (bitsLen d.size) d _ rfl (Nat.zero_le _) (Nat.le_refl _) (by omega) rfl hc) ?_
  rintro u H2 ⟨hu, h2⟩
  cases hu
  try simp -implicitDefEqProofs only [op, ef, cl, sq, reduceIte, j2, j3, j4, j5, j6, j7, j8, j9, y1, S1]
  exact ⟨rfl, h2⟩
end Go.Proofs.YtmgldhlcapjdkaaGreat.St
end

section

end
