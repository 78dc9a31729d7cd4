/- A text of the proof of a statement about the given program: its part FA6. No person has read it. -/
import Derived.Test.YtoailinfboehlaaDoorFA5
import Derived.Test.YtoailinfboehlaaDoorFJ2
-- seat f
namespace Go.Proofs.F
open Go Go.Gp Go.RowKit
open Disk hiding spl_all

structure CS where
  i : Nat
  W : Wr
  cur : Nat
  T : List Sec
  over : Bool
  r : List UInt8
  D : Dk
  es : List (Value × List UInt8)
  za : Option Addr
  zc : Nat
  pa : Option Addr
  pc : Nat
  qs : List (Value × List UInt8)
  a : Option Addr
  c : Nat
  k : Nat
structure CS.Ok (w0 : World) (n : Nat) (s : CS) : Prop where
  i : s.i ≤ n
  w : s.W.length ≤ s.i
  cur : s.cur ≤ s.i + 1
  len : (lay s.W).length + s.T.length = 300
  ss : Sess s.W s.cur s.T
  ds : DS s.W s.cur s.T s.over s.r s.D
  es : recs s.es = s.W.map (·.1)
  er : ∀ p ∈ s.es, (∃ a c, p.1 = .slice a p.2.length c) ∧ RdO w0 [] p.1 p.2.length (bcells p.2)
  qs : recs s.qs = s.W.map (·.1)
  ql : ∀ q ∈ s.qs, ∃ a c, q.1 = .slice a q.2.length c
  pr : RdO w0 [] (.slice s.pa s.r.length s.pc) s.r.length (bcells s.r)
theorem es_parts {w0 : World} {v : Value} {es : List (Value × List UInt8)} (her : ∀ p ∈ es, (∃ a c, p.1 = .slice a p.2.length c) ∧ RdO w0 [] p.1 p.2.length (bcells p.2)) : Parts w0 [own 26 1 v es.length (es.map (·.1))] v es :=
  ⟨RdO.own .head, fun p hp => ⟨(her p hp).1, (her p hp).2.conv fun _ h => own_nil' h⟩⟩
theorem recs_le {W : Wr} {cur : Nat} {qs : List (Value × List UInt8)} (hm : Mono 1 W cur) (hqs : recs qs = W.map (·.1)) : ∀ q ∈ qs, q.2.length ≤ 80000 := fun q hq => by
  have h1 : q.2 ∈ W.map (·.1) := by rw [← hqs]; exact List.mem_map_of_mem hq
  obtain ⟨w, hw1, hw2⟩ := List.mem_map.1 h1
  have := Mono.len hm w hw1
  rw [hw2] at this; omega
theorem bad_eq {p P : Prop} [Decidable p] (hp : p) (h : (!decide p) = true) : P := by simp [hp] at h
set_option maxHeartbeats 4000000 in
set_option maxRecDepth 20000 in
theorem BookCrashes_ok {w0 : World} {l : List OpF} {v : Value} {K : Ws} (hA : ∀ F, FnO Tryd.prog w0 7 [] F (fun u l' => u = .bool true ∧ l' = F)) (hK : Tab w0 0 64 fun j => w32 (K j)) (hK2 : ∀ i, i < 64 → hexOk constS i (K i) = true) (hr : Rd w0 [] v l.length (l.flatMap ocell)) (ho : ∀ o ∈ l, o.Ok w0) :
    FnO Tryd.prog w0 6 [v] [] (fun v _ => v = .bool true) := by
  have hr0 := hr
  obtain ⟨va, vc, rfl⟩ := hr0.lit
  refine FnO.intro (n := 140) Tryd.func6 rfl rfl rfl ?_
  have hm : maxG (lay [] ++ List.replicate 300 zsec) + 1 = 1 := by rw [show lay [] ++ List.replicate 300 zsec = List.replicate 300 zsec from rfl, maxG_new]
  have hrd : readAll (lay [] ++ List.replicate 300 zsec) = ([] : Wr).map told := (sess_new 300).read (by decide) (by decide)
  refine J.seq ?_
  refine J.region ?_
  refine JL.pure rfl rfl (OpP.assign rfl) ?_
  refine JL.nil ?_
  refine J.seq ?_
  refine J.seq ?_
  refine J.region ?_
  refine JL.step rfl rfl (OpW.call (first := []) (captured := []) inferInstance rfl rfl (hA _)) ?_; rintro r16 _ ⟨rfl, rfl⟩
  refine JL.pure rfl rfl (OpP.notB rfl) ?_
  refine JL.pure rfl rfl (OpP.move rfl) ?_
  refine JL.pure rfl rfl (OpP.move rfl) ?_
  refine JL.step rfl rfl (OpW.call (first := []) (captured := []) inferInstance rfl rfl (few_ok (l := l) (n := 30) (by decide) hr ho)) ?_; rintro r20 _ ⟨b, ⟨rfl, ⟨rfl, h20⟩⟩⟩
  refine JL.pure rfl rfl (OpP.notB rfl) ?_
  refine JL.pure rfl rfl (OpP.pickF rfl rfl) ?_
  refine JL.nil ?_
  refine J.splitAt 22 rfl (fun h22 => ?_) (fun h22 => ?_)
  focus
    refine J.condT rfl ?_
    refine J.seq ?_
    refine J.region ?_
    refine JL.step rfl rfl (OpW.call (first := []) (captured := []) inferInstance rfl rfl (hA _)) ?_; rintro r23 _ ⟨rfl, rfl⟩
    refine JL.pure rfl rfl (OpP.assign rfl) ?_
    refine JL.nil ?_
    refine J.ret1 rfl rfl ?_
  rotate_left 1
  focus
    refine J.condF rfl ?_
    refine J.skip ?_
    refine J.seq ?_
    refine J.region ?_
    refine JL.step rfl rfl (OpW.call (first := []) (captured := []) inferInstance rfl rfl (New_u (n := 300) (by decide))) ?_; rintro r24 _ ⟨g, ⟨rfl, rfl⟩⟩
    refine JL.pure rfl rfl (OpP.assign rfl) ?_
    refine JL.nil ?_
    refine J.seq ?_
    refine J.region ?_
    refine JL.pure rfl rfl (OpP.move rfl) ?_
    refine JL.step rfl rfl (OpW.call (first := []) (captured := []) inferInstance rfl rfl (open_s (W := []) (T := List.replicate 300 zsec) hK (by decide) hm (by decide) hrd)) ?_; rintro r27 _ ⟨k, ⟨a, ⟨c, ⟨qs, ⟨h27, ⟨h271, ⟨rfl, rfl⟩⟩⟩⟩⟩⟩⟩
    refine JL.pure rfl rfl (OpP.move rfl) ?_
    refine JL.pure rfl rfl (OpP.extract rfl rfl) ?_
    refine JL.pure rfl rfl (OpP.extract rfl rfl) ?_
    refine JL.pure rfl rfl (OpP.assign rfl) ?_
    refine JL.pure rfl rfl (OpP.assign rfl) ?_
    refine JL.nil ?_
    refine J.seq ?_
    refine J.seq ?_
    refine J.region ?_
    refine JL.pure rfl rfl (OpP.move rfl) ?_
    refine JL.decF rfl rfl (OpP.neq rfl rfl) (by omega) ?_
    refine JL.nil ?_
    refine J.condF rfl ?_
    refine J.skip ?_
  rotate_left 1
  · rfl
  have hb : b = true := by simpa using h22
  obtain ⟨hl30, hsz⟩ := h20 hb
  have hq0 : qs = [] := List.eq_nil_of_length_eq_zero (by have := congrArg List.length h27; simpa using this)
  subst hq0
  refine J.seq ?_
  refine J.region ?_
  refine JL.pure rfl rfl (OpP.assign rfl) ?_
  refine JL.nil ?_
  refine J.seq ?_
  refine J.region ?_
  refine JL.pure rfl rfl (OpP.assign rfl) ?_
  refine JL.nil ?_
  refine J.seq ?_
  refine J.region ?_
  refine JL.pure rfl rfl (OpP.assign rfl) ?_
  refine JL.nil ?_
  refine J.seq ?_
  refine J.seq ?_
  refine J.region ?_
  refine JL.pure rfl rfl (OpP.assign rfl) ?_
  refine JL.nil ?_
  refine J.block ?_
  refine J.loopI (σ := CS) (fun s => l.length - s.i) (fun s => s.Ok w0 l.length) (fun s => [(0, .slice va l.length vc), (3, .pointer (some ⟨g, 0, none⟩)), (4, .pointer (some ⟨s.k, 0, none⟩)), (6, .slice s.za s.es.length s.zc), (7, .slice s.pa s.r.length s.pc), (8, .bool s.over), (9, .int .i64 (s.i : Nat))])
    (fun s => [row s.k 60 (bkC g (s.cur : Nat) ((lay s.W).length : Nat) (.slice s.a s.qs.length s.c) (bkH K s.W) (s.qs.length : Nat) s.over), ownP (.slice s.a s.qs.length s.c) s.qs, diskR g s.D, own 26 1 (.slice s.za s.es.length s.zc) s.es.length (s.es.map (·.1))])
    ⟨0, [], 1, List.replicate 300 zsec, false, [], clean (-1) (lay [] ++ List.replicate 300 zsec), [], none, 0, none, 0, [], a, c, k⟩
    ⟨Nat.zero_le _, Nat.le_refl _, Nat.le_refl _, (by show 0 + (List.replicate 300 zsec).length = 300; rw [List.length_replicate]), sess_new 300, .inl ⟨rfl, -1, rfl⟩, rfl, (by intro p h; cases h), rfl, (by intro p h; cases h), RdO.nil0⟩ (by repeat (first | exact SubEnv.nil | refine SubEnv.cons (by first | rfl | exact congrArg (fun z => some (Value.int .i64 z)) (by omega) | (simp; done)) ?_)) (fun _ h => Own.pick (pre := [_, _, _, _]) [1, 2, 3, 0] rfl (Own.own_nil h)) (fun s hi back => ?_)
  obtain ⟨i, W, cur, T, over, r, D, es, za, zc, pa, pc, qs, a, c, k⟩ := s
  obtain ⟨hi1, hi2, hi3, hi4, hss, hds, hes, her, hqs, hql, hpr⟩ := hi
  dsimp only at hi1 hi2 hi3 hi4 hss hds hes her hqs hql hpr back ⊢
  by_cases hlt : i < l.length
  · obtain ⟨o, hoi⟩ : ∃ o, l[i]? = some o := ⟨_, List.getElem?_eq_getElem hlt⟩
    have hok := ho o (List.mem_of_getElem? hoi)
    obtain ⟨hsz1, hsz2⟩ := hsz o (List.mem_of_getElem? hoi)
    obtain ⟨pb, po, pcap, hpv, hpc, hc⟩ := hr.pos (by omega)
    cases hpv
    obtain ⟨ba, bc, hbv⟩ := hok.B.lit
    obtain ⟨ka, kc, hkv⟩ := hok.pk.lit
    have hcells : Cells w0 [] pb (po + i * 4) [.int .u8 o.k, .int .i64 o.N, .slice ba o.B.length bc, .slice ka o.pk.length kc] := by
      have := hc.chunkAt (ocell_len l) hoi
      rw [ocell, hbv, hkv] at this
      exact this
    have hRB := hok.B
    have hRk := hok.pk
    rw [hbv] at hRB
    rw [hkv] at hRk
    have hk0 := hok.k0
    have hk1 := hok.k1
    have hN0 := hok.n0
    have hN1 := hok.n1
    have hlq : qs.length = W.length := by have := congrArg List.length hqs; simpa using this
    have hle : es.length = W.length := by have := congrArg List.length hes; simpa using this
    have hE : recs qs = recs es := by rw [hqs, hes]
    have hq8 := recs_le hss.m hqs
    have hPes := es_parts (v := .slice za es.length zc) her
    refine J.seq ?_
    refine J.seq ?_
    refine J.region ?_
    refine JL.pure rfl rfl (OpP.move rfl) ?_
    refine JL.pure rfl rfl (OpP.move rfl) ?_
    refine JL.pure rfl rfl (OpP.len rfl rfl) ?_
    refine JL.decT rfl rfl (OpP.lss rfl rfl) (by omega) ?_
    refine JL.nil ?_
    refine J.condT rfl ?_
    refine J.skip ?_
    refine J.seq ?_
    refine J.block ?_
    refine J.seq ?_
    refine J.region ?_
    refine JL.pure rfl rfl (OpP.move rfl) ?_
    refine JL.pure rfl rfl (OpP.move rfl) ?_
    refine JL.pure rfl rfl (OpP.indexAddr rfl rfl (by omega) (by omega)) ?_
    refine JL.read rfl rfl (OpR.loadN rfl (hcells.conv (fun _ h => h.none)) (by first | rfl | assumption)) ?_
    refine JL.mem rfl rfl OpM.alloc ?_; rintro _ _ ⟨b10, rfl, rfl⟩
    refine JL.mem0 rfl (by apply OpM.storeN rfl rfl (by rfl) (oneC rfl (oneC rfl (oneC rfl (one1 rfl)))); (case' hu => exact .head); (case' hs => exact (.here (.here (.here (.here .nil))))); done) ?_; rintro _ _ ⟨rfl, rfl⟩
    refine JL.nil ?_
    refine J.seq ?_
    refine J.region ?_
    refine JL.pure rfl rfl (OpP.fieldAddr rfl) ?_
    refine JL.read rfl rfl (OpR.load1 rfl (Cell.row .head rfl)) ?_
    refine JL.pure rfl rfl (OpP.remI rfl rfl (by first | omega | exact Int.natCast_nonneg _) (by omega)) ?_
    refine JL.nil ?_
    refine J.block ?_
    refine J.seq ?_
    refine J.region ?_
    refine JL.dec rfl rfl (OpP.eql rfl rfl) (fun h77 => ?_) (fun h77 => ?_)
    focus
      refine JL.pure rfl rfl (OpP.assign rfl) ?_
      refine JL.nil ?_
      refine J.condT rfl ?_
      refine J.region ?_
      refine JL.pure rfl rfl (OpP.move rfl) ?_
      refine JL.pure rfl rfl (OpP.fieldAddr rfl) ?_
      refine JL.read rfl rfl (OpR.load1 rfl (Cell.row .head rfl)) ?_
    rotate_left 1
    focus
      refine JL.pure rfl rfl (OpP.assign rfl) ?_
      refine JL.nil ?_
      refine J.condF rfl ?_
      refine J.seq ?_
      refine J.region ?_
      refine JL.dec rfl rfl (OpP.eql rfl rfl) (fun h83 => ?_) (fun h83 => ?_)
      focus
        refine JL.pure rfl rfl (OpP.assign rfl) ?_
        refine JL.nil ?_
        refine J.condT rfl ?_
        refine J.seq ?_
        refine J.region ?_
        refine JL.pure rfl rfl (OpP.move rfl) ?_
        refine JL.pure rfl rfl (OpP.fieldAddr rfl) ?_
        refine JL.read rfl rfl (OpR.load1 rfl (Cell.row .head rfl)) ?_
      rotate_left 1
      focus
        refine JL.pure rfl rfl (OpP.assign rfl) ?_
        refine JL.nil ?_
        refine J.condF rfl ?_
      rotate_left 1
    rotate_left 2
    · have hds2 : DS W cur T over r (D.fused o.N) := by
        rcases hds with ⟨h1, f, rfl⟩ | ⟨h1, h2, h3⟩
        · obtain ⟨f', e⟩ := fused_clean f o.N (lay W ++ T)
          exact .inl ⟨h1, f', e⟩
        · rw [Dk.fused, if_pos h2]; exact .inr ⟨h1, h2, h3⟩
      refine JL.f3 ?_; refine JL.step rfl rfl (OpW.call (first := []) (captured := []) inferInstance rfl rfl (Fuse_ok (n := o.N) hN1)) ?_; rintro r81 _ ⟨rfl, rfl⟩
      refine JL.nil ?_
      refine J.inBlock ?_
      refine J.inBlock ?_
      refine J.region ?_
      refine JL.pure rfl rfl (OpP.move rfl) ?_
      refine JL.pure rfl rfl (OpP.addI rfl rfl (by omega) (by omega)) ?_
      refine JL.pure rfl rfl (OpP.assign rfl) ?_
      refine JL.nil ?_
      refine back ⟨i + 1, W, cur, T, over, r, D.fused o.N, es, za, zc, pa, pc, qs, a, c, k⟩ ⟨by dsimp only; omega, by dsimp only; omega, by dsimp only; omega, hi4, hss, hds2, hes, her, hqs, hql, hpr⟩ (by dsimp only; omega) (by repeat (first | exact SubEnv.nil | refine SubEnv.cons (by first | rfl | exact congrArg (fun z => some (Value.int .i64 z)) (by omega) | (simp; done)) ?_)) (fun _ h => Own.pick (pre := [_, _, _, _, _]) [2, 3, 0, 4] rfl h)
    · obtain ⟨W2, T2, q1, q2, q3, q4, q5⟩ := DS.crash o.pk hss hds (by omega) (by omega)
      have hw2 : W2.length ≤ W.length + 1 := by
        rcases q5 with rfl | ⟨rfl, _⟩
        · omega
        · rw [List.length_append]; simp
      refine JL.f3 ?_; refine JL.step rfl rfl (OpW.call (first := []) (captured := []) inferInstance rfl rfl (Crash_u (pk := o.pk) hRk)) ?_; rintro r87 _ ⟨rfl, rfl⟩
      refine JL.nil ?_
      rw [q1]
      refine J.seq ?_
      refine J.region ?_
      refine JL.pure rfl rfl (OpP.move rfl) ?_
      refine JL.step rfl rfl (OpW.call (first := []) (captured := []) inferInstance rfl rfl (open_s (W := W2) (T := T2) (cur := maxG (lay W2 ++ T2) + 1) hK (by decide) rfl (by omega) q2)) ?_; rintro r90 _ ⟨k1, ⟨a1, ⟨c1, ⟨qs1, ⟨h90, ⟨h901, ⟨rfl, rfl⟩⟩⟩⟩⟩⟩⟩
      refine JL.pure rfl rfl (OpP.move rfl) ?_
      refine JL.pure rfl rfl (OpP.extract rfl rfl) ?_
      refine JL.pure rfl rfl (OpP.extract rfl rfl) ?_
      refine JL.pure rfl rfl (OpP.assign rfl) ?_
      refine JL.pure rfl rfl (OpP.assign rfl) ?_
      refine JL.nil ?_
      refine J.seq ?_
      refine J.region ?_
      refine JL.pure rfl rfl (OpP.move rfl) ?_
      refine JL.f2 ?_; refine JL.step rfl rfl (OpW.call (first := []) (captured := []) inferInstance rfl rfl (open_s (W := W2) (T := T2) (cur := maxG (lay W2 ++ T2) + 1) hK (by decide) rfl (by omega) q2)) ?_; rintro r95 _ ⟨k2, ⟨a2, ⟨c2, ⟨qs2, ⟨h95, ⟨h951, ⟨rfl, rfl⟩⟩⟩⟩⟩⟩⟩
      refine JL.pure rfl rfl (OpP.move rfl) ?_
      refine JL.pure rfl rfl (OpP.extract rfl rfl) ?_
      refine JL.pure rfl rfl (OpP.extract rfl rfl) ?_
      refine JL.pure rfl rfl (OpP.assign rfl) ?_
      refine JL.pure rfl rfl (OpP.assign rfl) ?_
      refine JL.nil ?_
      refine J.seq ?_
      generalize hcur2 : maxG (lay W2 ++ T2) + 1 = cur2 at q3 ⊢
      refine J.conv (l' := [row k2 60 (bkC g (cur2 : Nat) ((lay W2).length : Nat) (.slice a2 qs2.length c2) (bkH K W2) (qs2.length : Nat) false), ownP (.slice a2 qs2.length c2) qs2, diskR g (clean (-1) (lay W2 ++ T2)), row k1 60 (bkC g (cur2 : Nat) ((lay W2).length : Nat) (.slice a1 qs1.length c1) (bkH K W2) (qs1.length : Nat) false), ownP (.slice a1 qs1.length c1) qs1, own 26 1 (.slice za es.length zc) es.length (es.map (fun q : Value × List UInt8 => q.1))]) (fun _ h => Own.pick (pre := [_, _, _, _, _, _, _, _, _]) [0, 1, 2, 3, 4, 8] rfl h) ?_
      have hA1 : recs qs1 = W2.map (·.1) := by assumption
      have hA2 : recs qs2 = W2.map (·.1) := by assumption
      have hL1 : qs1.length = W2.length := by have := congrArg List.length hA1; simpa using this
      have hL2 : qs2.length = W2.length := by have := congrArg List.length hA2; simpa using this
      have hM1 := recs_le q3.m hA1
      have hM2 := recs_le q3.m hA2
      have hE2 : recs qs1 = recs qs2 := by rw [hA1, hA2]
      have hlen2 : (lay W2).length + T2.length = 300 := by
        have := congrArg List.length q1
        rw [kept_length, List.length_append] at this
        rcases hds with ⟨_, f, rfl⟩ | ⟨_, _, hfl, _⟩
        · have e : (clean f (lay W ++ T)).fl.length = (lay W).length + T.length := by show (lay W ++ T).length = _; rw [List.length_append]
          omega
        · rw [hfl, List.length_append] at this; omega
      refine J.seq ?_
      refine J.region ?_
      refine JL.pure rfl rfl (OpP.move rfl) ?_
      refine JL.decF rfl rfl (OpP.neq rfl rfl) (by omega) ?_
      refine JL.pure rfl rfl (OpP.move rfl) ?_
      refine JL.pure rfl rfl (OpP.move rfl) ?_
      refine JL.decF rfl rfl (OpP.neq rfl rfl) (by omega) ?_
      refine JL.pure rfl rfl (OpP.pickF rfl rfl) ?_
      refine JL.pure rfl rfl (OpP.move rfl) ?_
      refine JL.pure rfl rfl (OpP.move rfl) ?_
      refine JL.f4 ?_; refine JL.f4 ?_; refine JL.step rfl rfl (OpW.call (first := []) (captured := []) inferInstance rfl rfl (Records_o (by first | assumption | omega | rfl | exact Nat.le_of_ble_eq_true rfl | (simp; omega)) (by first | assumption | omega | rfl | exact Nat.le_of_ble_eq_true rfl | (simp; omega)) (by first | assumption | omega | rfl | exact Nat.le_of_ble_eq_true rfl | (simp; omega)))) ?_; rintro r106 _ ⟨a21, ⟨c21, ⟨qs3, ⟨rfl, ⟨h106, ⟨h1061, ⟨h1062, rfl⟩⟩⟩⟩⟩⟩⟩
      refine JL.pure rfl rfl (OpP.move rfl) ?_
      refine JL.f4 ?_; refine JL.f4 ?_; refine JL.step rfl rfl (OpW.call (first := []) (captured := []) inferInstance rfl rfl (Records_o (by first | assumption | omega | rfl | exact Nat.le_of_ble_eq_true rfl | (simp; omega)) (by first | assumption | omega | rfl | exact Nat.le_of_ble_eq_true rfl | (simp; omega)) (by first | assumption | omega | rfl | exact Nat.le_of_ble_eq_true rfl | (simp; omega)))) ?_; rintro r108 _ ⟨a22, ⟨c22, ⟨qs4, ⟨rfl, ⟨h108, ⟨h1081, ⟨h1082, rfl⟩⟩⟩⟩⟩⟩⟩
      refine JL.step rfl rfl (OpW.call (first := []) (captured := []) inferInstance rfl rfl (Same_ok (by omega) (by omega) (Parts.conv (fun _ h => Own.pick (pre := [_, _, _, _, _, _, _, _]) [3] rfl h) (Parts.ofOwn (F := []) (by assumption))) (Parts.conv (fun _ h => Own.pick (pre := [_, _, _, _, _, _, _, _]) [0] rfl h) (Parts.ofOwn (F := []) (by assumption))))) ?_; rintro r109 _ ⟨rfl, rfl⟩
      refine JL.pure rfl rfl (OpP.notB rfl) ?_
      refine JL.pure rfl rfl (OpP.pickF rfl rfl) ?_
      refine JL.nil ?_
      refine J.splitAt 111 rfl (fun h111 => ?_) (fun h111 => ?_)
      focus
        refine J.condT rfl ?_
        refine J.seq ?_
        refine J.region ?_
        refine JL.pure rfl rfl (OpP.assign rfl) ?_
        refine JL.nil ?_
        refine J.ret1 rfl rfl ?_
      rotate_left 1
      focus
        refine J.condF rfl ?_
        refine J.skip ?_
        refine J.seq ?_
      rotate_left 1
      · exact bad_eq (p := recs qs3 = recs qs4) (by rw [‹recs qs3 = recs qs1›, ‹recs qs4 = recs qs2›, hE2]) (by assumption)
      refine J.conv (l' := [row k1 60 (bkC g (cur2 : Nat) ((lay W2).length : Nat) (.slice a1 qs1.length c1) (bkH K W2) (qs1.length : Nat) false), ownP (.slice a1 qs1.length c1) qs1, diskR g (clean (-1) (lay W2 ++ T2)), own 26 1 (.slice za es.length zc) es.length (es.map (fun q : Value × List UInt8 => q.1))]) (fun _ h => Own.pick (pre := [_, _, _, _, _, _, _, _]) [4, 5, 6, 7] rfl h) ?_
      have hB1 : (bkH K W2).length = 32 := bkH_len
      rcases q5 with rfl | ⟨rfl, rfl⟩
      · have hB2 : (hsh K h0 (recs es)).length = 32 := hsh_len (by simp [h0]) _
        have hH : bkH K W2 = hsh K h0 (recs es) := by rw [hes]; rfl
        have hes8 := recs_le hss.m hes
        have hEE : recs qs1 = recs es := by rw [hA1, hes]
        have hF : List.take 32 (List.drop 0 (hdC (bkH K W2) ((qs1.length : Nat) : Int)).toArray.toList) = bcells (bkH K W2) := by
          rw [List.drop_zero, hdC]
          exact List.take_left' (by rw [bcells_length, hB1])
        cases over
        case false =>
          refine J.seq ?_
          refine J.region ?_
          refine JL.pure rfl rfl (OpP.move rfl) ?_
          refine JL.pure rfl rfl (OpP.move rfl) ?_
          refine JL.skip rfl rfl ?_
          refine JL.skip rfl rfl ?_
          refine JL.skip rfl rfl ?_
          refine JL.skip rfl rfl ?_
          refine JL.skip rfl rfl ?_
          refine JL.skip rfl rfl ?_
          refine JL.skip rfl rfl ?_
          refine JL.pure rfl rfl (OpP.pickF rfl rfl) ?_
          refine JL.nil ?_
          refine J.condF rfl ?_
          refine J.skip ?_
          refine J.seq ?_
          refine J.seq ?_
          refine J.region ?_
          refine JL.pure rfl rfl (OpP.move rfl) ?_
          refine JL.step rfl rfl (OpW.call (first := []) (captured := []) inferInstance rfl rfl (Records_o (by first | assumption | omega | rfl | exact Nat.le_of_ble_eq_true rfl | (simp; omega)) (by first | assumption | omega | rfl | exact Nat.le_of_ble_eq_true rfl | (simp; omega)) (by first | assumption | omega | rfl | exact Nat.le_of_ble_eq_true rfl | (simp; omega)))) ?_; rintro r127 _ ⟨a23, ⟨c23, ⟨qs5, ⟨rfl, ⟨h127, ⟨h1271, ⟨h1272, rfl⟩⟩⟩⟩⟩⟩⟩
          refine JL.pure rfl rfl (OpP.move rfl) ?_
          refine JL.step rfl rfl (OpW.call (first := []) (captured := []) inferInstance rfl rfl (Same_ok (ps2 := es) (by omega) (by omega) (Parts.conv (fun _ h => Own.pick (pre := [_, _, _, _, _]) [0] rfl h) (Parts.ofOwn (F := []) (by assumption))) (hPes.conv (fun _ h => Own.pick (pre := [_, _, _, _, _]) [4] rfl h)))) ?_; rintro r129 _ ⟨rfl, rfl⟩
          refine JL.pure rfl rfl (OpP.notB rfl) ?_
          refine JL.pure rfl rfl (OpP.move rfl) ?_
          refine JL.splitAt 131 rfl (fun h131 => ?_) (fun h131 => ?_)
          focus
            refine JL.skip rfl rfl ?_
            refine JL.skip rfl rfl ?_
            refine JL.skip rfl rfl ?_
            refine JL.skip rfl rfl ?_
            refine JL.skip rfl rfl ?_
            refine JL.skip rfl rfl ?_
            refine JL.pure rfl rfl (OpP.pickT rfl rfl) ?_
            refine JL.nil ?_
            refine J.condT rfl ?_
            refine J.seq ?_
            refine J.region ?_
            refine JL.pure rfl rfl (OpP.assign rfl) ?_
            refine JL.nil ?_
            refine J.ret1 rfl rfl ?_
          rotate_left 1
          focus
            refine JL.pure rfl rfl (OpP.move rfl) ?_
            refine JL.f1 ?_; refine JL.step rfl rfl (OpW.call (first := []) (captured := []) inferInstance rfl rfl (Head_ok (by first | assumption | omega | rfl | exact Nat.le_of_ble_eq_true rfl | (simp; omega)))) ?_; rintro r133 _ ⟨rfl, rfl⟩
            refine JL.pure rfl rfl (OpP.fieldN rfl rfl) ?_
            refine JL.pure rfl rfl (OpP.move rfl) ?_
            refine JL.step rfl rfl (OpW.call (first := []) (captured := []) inferInstance rfl rfl (Hash_ok (ps := es) hK2 hes8 (by omega) (hPes.conv (fun _ h => Own.pick (pre := [_, _, _, _, _]) [4] rfl h)))) ?_; rintro r136 _ ⟨rfl, rfl⟩
          rotate_left 1
          · exact bad_eq (p := recs qs5 = recs es) (Eq.trans (by assumption) hEE) (by assumption)
          rw [hF]
          refine JL.pure rfl rfl (OpP.neBytes rfl rfl (by first | assumption | exact shaB_length _ _ | solve_by_elim) (by first | assumption | exact shaB_length _ _ | solve_by_elim)) ?_
          refine JL.pure rfl rfl (OpP.pickF rfl rfl) ?_
          refine JL.nil ?_
          refine J.decAt 138 rfl (fun h138 => ?_) (fun h138 => ?_)
          focus
            refine J.condT rfl ?_
            refine J.seq ?_
            refine J.region ?_
            refine JL.pure rfl rfl (OpP.assign rfl) ?_
            refine JL.nil ?_
            refine J.ret1 rfl rfl ?_
          rotate_left 1
          focus
            refine J.condF rfl ?_
            refine J.skip ?_
            refine J.seq ?_
            refine J.region ?_
            refine JL.pure rfl rfl (OpP.assign rfl) ?_
            refine JL.nil ?_
            refine J.region ?_
            refine JL.pure rfl rfl (OpP.move rfl) ?_
            refine JL.pure rfl rfl (OpP.assign rfl) ?_
            refine JL.nil ?_
            refine J.inBlock ?_
            refine J.inBlock ?_
            refine J.region ?_
            refine JL.pure rfl rfl (OpP.move rfl) ?_
            refine JL.pure rfl rfl (OpP.addI rfl rfl (by omega) (by omega)) ?_
            refine JL.pure rfl rfl (OpP.assign rfl) ?_
            refine JL.nil ?_
          rotate_left 1
          · exact absurd hH (by assumption)
          · refine back ⟨i + 1, W2, cur2, T2, false, r, clean (-1) (lay W2 ++ T2), es, za, zc, pa, pc, qs1, a1, c1, k1⟩ ⟨by dsimp only; omega, by dsimp only; omega, by dsimp only; omega, hlen2, q3, .inl ⟨rfl, -1, rfl⟩, hes, her, hA1, by assumption, hpr⟩ (by dsimp only; omega) (by repeat (first | exact SubEnv.nil | refine SubEnv.cons (by first | rfl | exact congrArg (fun z => some (Value.int .i64 z)) (by omega) | (simp; done)) ?_)) (fun _ h => Own.pick (pre := [_, _, _, _, _]) [0, 2, 3, 4] rfl h)
        case true =>
          refine J.seq ?_
          refine J.region ?_
          refine JL.pure rfl rfl (OpP.move rfl) ?_
          refine JL.pure rfl rfl (OpP.move rfl) ?_
          refine JL.pure rfl rfl (OpP.move rfl) ?_
          refine JL.step rfl rfl (OpW.call (first := []) (captured := []) inferInstance rfl rfl (Records_o (by first | assumption | omega | rfl | exact Nat.le_of_ble_eq_true rfl | (simp; omega)) (by first | assumption | omega | rfl | exact Nat.le_of_ble_eq_true rfl | (simp; omega)) (by first | assumption | omega | rfl | exact Nat.le_of_ble_eq_true rfl | (simp; omega)))) ?_; rintro r115 _ ⟨a23, ⟨c23, ⟨qs5, ⟨rfl, ⟨h115, ⟨h1151, ⟨h1152, rfl⟩⟩⟩⟩⟩⟩⟩
          refine JL.pure rfl rfl (OpP.len rfl rfl) ?_
          refine JL.pure rfl rfl (OpP.move rfl) ?_
          refine JL.pure rfl rfl (OpP.len rfl rfl) ?_
          refine JL.pure rfl rfl (OpP.addI rfl rfl (by omega) (by omega)) ?_
          refine JL.decF rfl rfl (OpP.eql rfl rfl) (by omega) ?_
          refine JL.pure rfl rfl (OpP.pickT rfl rfl) ?_
          refine JL.nil ?_
          refine J.condF rfl ?_
          refine J.skip ?_
          refine J.seq ?_
          refine J.seq ?_
          refine J.region ?_
          refine JL.pure rfl rfl (OpP.move rfl) ?_
          refine JL.f2 ?_; refine JL.f2 ?_; refine JL.step rfl rfl (OpW.call (first := []) (captured := []) inferInstance rfl rfl (Records_o (by first | assumption | omega | rfl | exact Nat.le_of_ble_eq_true rfl | (simp; omega)) (by first | assumption | omega | rfl | exact Nat.le_of_ble_eq_true rfl | (simp; omega)) (by first | assumption | omega | rfl | exact Nat.le_of_ble_eq_true rfl | (simp; omega)))) ?_; rintro r127 _ ⟨a24, ⟨c24, ⟨qs6, ⟨rfl, ⟨h127, ⟨h1271, ⟨h1272, rfl⟩⟩⟩⟩⟩⟩⟩
          refine JL.pure rfl rfl (OpP.move rfl) ?_
          refine JL.step rfl rfl (OpW.call (first := []) (captured := []) inferInstance rfl rfl (Same_ok (ps2 := es) (by omega) (by omega) (Parts.conv (fun _ h => Own.pick (pre := [_, _, _, _, _, _]) [0] rfl h) (Parts.ofOwn (F := []) (by assumption))) (hPes.conv (fun _ h => Own.pick (pre := [_, _, _, _, _, _]) [5] rfl h)))) ?_; rintro r129 _ ⟨rfl, rfl⟩
          refine JL.pure rfl rfl (OpP.notB rfl) ?_
          refine JL.pure rfl rfl (OpP.move rfl) ?_
          refine JL.splitAt 131 rfl (fun h131 => ?_) (fun h131 => ?_)
          focus
            refine JL.skip rfl rfl ?_
            refine JL.skip rfl rfl ?_
            refine JL.skip rfl rfl ?_
            refine JL.skip rfl rfl ?_
            refine JL.skip rfl rfl ?_
            refine JL.skip rfl rfl ?_
            refine JL.pure rfl rfl (OpP.pickT rfl rfl) ?_
            refine JL.nil ?_
            refine J.condT rfl ?_
            refine J.seq ?_
            refine J.region ?_
            refine JL.pure rfl rfl (OpP.assign rfl) ?_
            refine JL.nil ?_
            refine J.ret1 rfl rfl ?_
          rotate_left 1
          focus
            refine JL.pure rfl rfl (OpP.move rfl) ?_
            refine JL.f1 ?_; refine JL.step rfl rfl (OpW.call (first := []) (captured := []) inferInstance rfl rfl (Head_ok (by first | assumption | omega | rfl | exact Nat.le_of_ble_eq_true rfl | (simp; omega)))) ?_; rintro r133 _ ⟨rfl, rfl⟩
            refine JL.pure rfl rfl (OpP.fieldN rfl rfl) ?_
            refine JL.pure rfl rfl (OpP.move rfl) ?_
            refine JL.step rfl rfl (OpW.call (first := []) (captured := []) inferInstance rfl rfl (Hash_ok (ps := es) hK2 hes8 (by omega) (hPes.conv (fun _ h => Own.pick (pre := [_, _, _, _, _, _]) [5] rfl h)))) ?_; rintro r136 _ ⟨rfl, rfl⟩
          rotate_left 1
          · exact bad_eq (p := recs qs6 = recs es) (Eq.trans (by assumption) hEE) (by assumption)
          rw [hF]
          refine JL.pure rfl rfl (OpP.neBytes rfl rfl (by first | assumption | exact shaB_length _ _ | solve_by_elim) (by first | assumption | exact shaB_length _ _ | solve_by_elim)) ?_
          refine JL.pure rfl rfl (OpP.pickF rfl rfl) ?_
          refine JL.nil ?_
          refine J.decAt 138 rfl (fun h138 => ?_) (fun h138 => ?_)
          focus
            refine J.condT rfl ?_
            refine J.seq ?_
            refine J.region ?_
            refine JL.pure rfl rfl (OpP.assign rfl) ?_
            refine JL.nil ?_
            refine J.ret1 rfl rfl ?_
          rotate_left 1
          focus
            refine J.condF rfl ?_
            refine J.skip ?_
            refine J.seq ?_
            refine J.region ?_
            refine JL.pure rfl rfl (OpP.assign rfl) ?_
            refine JL.nil ?_
            refine J.region ?_
            refine JL.pure rfl rfl (OpP.move rfl) ?_
            refine JL.pure rfl rfl (OpP.assign rfl) ?_
            refine JL.nil ?_
            refine J.inBlock ?_
            refine J.inBlock ?_
            refine J.region ?_
            refine JL.pure rfl rfl (OpP.move rfl) ?_
            refine JL.pure rfl rfl (OpP.addI rfl rfl (by omega) (by omega)) ?_
            refine JL.pure rfl rfl (OpP.assign rfl) ?_
            refine JL.nil ?_
          rotate_left 1
          · exact absurd hH (by assumption)
          · refine back ⟨i + 1, W2, cur2, T2, false, r, clean (-1) (lay W2 ++ T2), es, za, zc, pa, pc, qs1, a1, c1, k1⟩ ⟨by dsimp only; omega, by dsimp only; omega, by dsimp only; omega, hlen2, q3, .inl ⟨rfl, -1, rfl⟩, hes, her, hA1, by assumption, hpr⟩ (by dsimp only; omega) (by repeat (first | exact SubEnv.nil | refine SubEnv.cons (by first | rfl | exact congrArg (fun z => some (Value.int .i64 z)) (by omega) | (simp; done)) ?_)) (fun _ h => Own.pick (pre := [_, _, _, _, _, _]) [0, 2, 4, 5] rfl h)
      · have hwl' : (W ++ [(r, cur)]).length = W.length + 1 := by rw [List.length_append]; rfl
        refine J.seq ?_
        refine J.region ?_
        refine JL.pure rfl rfl (OpP.move rfl) ?_
        refine JL.pure rfl rfl (OpP.move rfl) ?_
        refine JL.pure rfl rfl (OpP.move rfl) ?_
        refine JL.step rfl rfl (OpW.call (first := []) (captured := []) inferInstance rfl rfl (Records_o (by first | assumption | omega | rfl | exact Nat.le_of_ble_eq_true rfl | (simp; omega)) (by first | assumption | omega | rfl | exact Nat.le_of_ble_eq_true rfl | (simp; omega)) (by first | assumption | omega | rfl | exact Nat.le_of_ble_eq_true rfl | (simp; omega)))) ?_; rintro r115 _ ⟨a23, ⟨c23, ⟨qs5, ⟨rfl, ⟨h115, ⟨h1151, ⟨h1152, rfl⟩⟩⟩⟩⟩⟩⟩
        refine JL.pure rfl rfl (OpP.len rfl rfl) ?_
        refine JL.pure rfl rfl (OpP.move rfl) ?_
        refine JL.pure rfl rfl (OpP.len rfl rfl) ?_
        refine JL.pure rfl rfl (OpP.addI rfl rfl (by omega) (by omega)) ?_
        refine JL.decT rfl rfl (OpP.eql rfl rfl) (by omega) ?_
        refine JL.pure rfl rfl (OpP.pickT rfl rfl) ?_
        refine JL.nil ?_
        refine J.condT rfl ?_
        refine J.region ?_
        refine JL.pure rfl rfl (OpP.move rfl) ?_
        refine JL.pure rfl rfl (OpP.move rfl) ?_
        refine JL.mem rfl rfl (by apply OpM.buildSlice (by rfl) rfl (by rfl); (repeat (first | exact Fills.nil | (apply Fills.cons rfl rfl rfl; (case' hs => ((repeat (first | exact Spl.nil | apply Spl.here | apply Spl.there)); done)))))) ?_; rintro _ _ ⟨b124, rfl, rfl⟩
        refine JL.f5 ?_; refine JL.mem rfl rfl (OpM.appendH rfl (.inl ⟨_, Sl.und inferInstance⟩) (by rfl) rfl rfl (RdO.src (RdO.ofRow (.tail .head) (by first | exact Nat.le_refl _ | decide | omega)) (by first | assumption | exact fc_length _ _ | (simp; done) | (simp; omega))) (one1 rfl) (by simp only [maxLen]; omega) (by omega)) ?_; rintro _ _ ⟨⟨a125, c125, rfl⟩, rfl⟩
        refine JL.pure rfl rfl (OpP.assign rfl) ?_
        refine JL.nil ?_
        refine J.seq ?_
        · have he' : (es ++ [(Value.slice pa r.length pc, r)]).length = es.length + 1 := by rw [List.length_append]; rfl
          have hes' : recs (es ++ [(Value.slice pa r.length pc, r)]) = (W ++ [(r, cur)]).map (·.1) := by rw [recs, List.map_append, List.map_append, ← hes]; rfl
          have her' : ∀ p ∈ es ++ [(Value.slice pa r.length pc, r)], (∃ a c, p.1 = .slice a p.2.length c) ∧ RdO w0 [] p.1 p.2.length (bcells p.2) := fun q hq => by
            rcases List.mem_append.1 hq with hq | hq
            · exact her q hq
            · simp only [List.mem_singleton] at hq; subst hq; exact ⟨⟨_, _, rfl⟩, hpr⟩
          rw [← he']
          refine J.conv (l' := [row k1 60 (bkC g (cur2 : Nat) ((lay (W ++ [(r, cur)])).length : Nat) (.slice a1 qs1.length c1) (bkH K (W ++ [(r, cur)])) (qs1.length : Nat) false), ownP (.slice a1 qs1.length c1) qs1, diskR g (clean (-1) (lay (W ++ [(r, cur)]) ++ T2)), own 26 1 (.slice a125 (es ++ [(Value.slice pa r.length pc, r)]).length c125) (es ++ [(Value.slice pa r.length pc, r)]).length ((es ++ [(Value.slice pa r.length pc, r)]).map (fun q : Value × List UInt8 => q.1))]) (fun _ h => by rw [List.map_append]; exact Own.pick (pre := [_, _, _, _, _, _]) [3, 4, 5, 0] rfl h) ?_
          generalize es ++ [(Value.slice pa r.length pc, r)] = es' at he' hes' her' ⊢
          generalize W ++ [(r, cur)] = W' at hA1 hL1 hB1 hes' hwl' q3 hlen2 ⊢
          have hPes' := es_parts (v := .slice a125 es'.length c125) her'
          have hB2 : (hsh K h0 (recs es')).length = 32 := hsh_len (by simp [h0]) _
          have hH : bkH K W' = hsh K h0 (recs es') := by rw [hes']; rfl
          have hes8 := recs_le q3.m hes'
          have hEE : recs qs1 = recs es' := by rw [hA1, hes']
          have hF : List.take 32 (List.drop 0 (hdC (bkH K W') ((qs1.length : Nat) : Int)).toArray.toList) = bcells (bkH K W') := by
            rw [List.drop_zero, hdC]
            exact List.take_left' (by rw [bcells_length, hB1])
          refine J.seq ?_
          refine J.region ?_
          refine JL.pure rfl rfl (OpP.move rfl) ?_
          refine JL.step rfl rfl (OpW.call (first := []) (captured := []) inferInstance rfl rfl (Records_o (by first | assumption | omega | rfl | exact Nat.le_of_ble_eq_true rfl | (simp; omega)) (by first | assumption | omega | rfl | exact Nat.le_of_ble_eq_true rfl | (simp; omega)) (by first | assumption | omega | rfl | exact Nat.le_of_ble_eq_true rfl | (simp; omega)))) ?_; rintro r127 _ ⟨a24, ⟨c24, ⟨qs6, ⟨rfl, ⟨h127, ⟨h1271, ⟨h1272, rfl⟩⟩⟩⟩⟩⟩⟩
          refine JL.pure rfl rfl (OpP.move rfl) ?_
          refine JL.step rfl rfl (OpW.call (first := []) (captured := []) inferInstance rfl rfl (Same_ok (ps2 := es') (by omega) (by omega) (Parts.conv (fun _ h => Own.pick (pre := [_, _, _, _, _]) [0] rfl h) (Parts.ofOwn (F := []) (by assumption))) (hPes'.conv (fun _ h => Own.pick (pre := [_, _, _, _, _]) [4] rfl h)))) ?_; rintro r129 _ ⟨rfl, rfl⟩
          refine JL.pure rfl rfl (OpP.notB rfl) ?_
          refine JL.pure rfl rfl (OpP.move rfl) ?_
          refine JL.splitAt 131 rfl (fun h131 => ?_) (fun h131 => ?_)
          focus
            refine JL.skip rfl rfl ?_
            refine JL.skip rfl rfl ?_
            refine JL.skip rfl rfl ?_
            refine JL.skip rfl rfl ?_
            refine JL.skip rfl rfl ?_
            refine JL.skip rfl rfl ?_
            refine JL.pure rfl rfl (OpP.pickT rfl rfl) ?_
            refine JL.nil ?_
            refine J.condT rfl ?_
            refine J.seq ?_
            refine J.region ?_
            refine JL.pure rfl rfl (OpP.assign rfl) ?_
            refine JL.nil ?_
            refine J.ret1 rfl rfl ?_
          rotate_left 1
          focus
            refine JL.pure rfl rfl (OpP.move rfl) ?_
            refine JL.f1 ?_; refine JL.step rfl rfl (OpW.call (first := []) (captured := []) inferInstance rfl rfl (Head_ok (by first | assumption | omega | rfl | exact Nat.le_of_ble_eq_true rfl | (simp; omega)))) ?_; rintro r133 _ ⟨rfl, rfl⟩
            refine JL.pure rfl rfl (OpP.fieldN rfl rfl) ?_
            refine JL.pure rfl rfl (OpP.move rfl) ?_
            refine JL.step rfl rfl (OpW.call (first := []) (captured := []) inferInstance rfl rfl (Hash_ok (ps := es') hK2 hes8 (by omega) (hPes'.conv (fun _ h => Own.pick (pre := [_, _, _, _, _]) [4] rfl h)))) ?_; rintro r136 _ ⟨rfl, rfl⟩
          rotate_left 1
          · exact bad_eq (p := recs qs6 = recs es') (Eq.trans (by assumption) hEE) (by assumption)
          rw [hF]
          refine JL.pure rfl rfl (OpP.neBytes rfl rfl (by first | assumption | exact shaB_length _ _ | solve_by_elim) (by first | assumption | exact shaB_length _ _ | solve_by_elim)) ?_
          refine JL.pure rfl rfl (OpP.pickF rfl rfl) ?_
          refine JL.nil ?_
          refine J.decAt 138 rfl (fun h138 => ?_) (fun h138 => ?_)
          focus
            refine J.condT rfl ?_
            refine J.seq ?_
            refine J.region ?_
            refine JL.pure rfl rfl (OpP.assign rfl) ?_
            refine JL.nil ?_
            refine J.ret1 rfl rfl ?_
          rotate_left 1
          focus
            refine J.condF rfl ?_
            refine J.skip ?_
            refine J.seq ?_
            refine J.region ?_
            refine JL.pure rfl rfl (OpP.assign rfl) ?_
            refine JL.nil ?_
            refine J.region ?_
            refine JL.pure rfl rfl (OpP.move rfl) ?_
            refine JL.pure rfl rfl (OpP.assign rfl) ?_
            refine JL.nil ?_
            refine J.inBlock ?_
            refine J.inBlock ?_
            refine J.region ?_
            refine JL.pure rfl rfl (OpP.move rfl) ?_
            refine JL.pure rfl rfl (OpP.addI rfl rfl (by omega) (by omega)) ?_
            refine JL.pure rfl rfl (OpP.assign rfl) ?_
            refine JL.nil ?_
          rotate_left 1
          · exact absurd hH (by assumption)
          · refine back ⟨i + 1, W', cur2, T2, false, r, clean (-1) (lay W' ++ T2), es', a125, c125, pa, pc, qs1, a1, c1, k1⟩ ⟨by dsimp only; omega, by dsimp only; omega, by dsimp only; omega, hlen2, q3, .inl ⟨rfl, -1, rfl⟩, hes', her', hA1, by assumption, hpr⟩ (by dsimp only; omega) (by repeat (first | exact SubEnv.nil | refine SubEnv.cons (by first | rfl | exact congrArg (fun z => some (Value.int .i64 z)) (by omega) | (simp; done)) ?_)) (fun _ h => Own.pick (pre := [_, _, _, _, _]) [0, 2, 3, 4] rfl h)
    · rcases hds with ⟨rfl, f, rfl⟩ | ⟨rfl, hz, hfl, hnl, ⟨j, hj, hws⟩, hr4⟩
      · refine J.seq ?_
        refine J.region ?_
        refine JL.pure rfl rfl (OpP.move rfl) ?_
        refine JL.pure rfl rfl (OpP.fieldAddr rfl) ?_
        refine JL.read rfl rfl (OpR.load1 rfl (Cell.row .head rfl)) ?_
        refine JL.f3 ?_; refine JL.f3 ?_; refine JL.f3 ?_; refine JL.step rfl rfl (OpW.call (first := []) (captured := []) inferInstance rfl rfl (append_c (T := T) (f := f) (bs := o.B) hK (by omega) hqs (by omega) (by omega) hRB.ao)) ?_; rintro r48 _ (⟨h48, ⟨rfl, rfl⟩⟩ | (⟨h481, ⟨h482, ⟨rfl, rfl⟩⟩⟩ | (⟨h483, ⟨h484, ⟨rfl, ⟨f', ⟨a', ⟨c', ⟨a1, ⟨c1, ⟨h485, rfl⟩⟩⟩⟩⟩⟩⟩⟩⟩ | ⟨h486, ⟨h487, ⟨h488, ⟨h489, ⟨rfl, rfl⟩⟩⟩⟩⟩)))
        focus
          refine JL.pure rfl rfl (OpP.assign rfl) ?_
          refine JL.nil ?_
          refine J.seq ?_
          refine J.seq ?_
          refine J.region ?_
          refine JL.pure rfl rfl (OpP.move rfl) ?_
          refine JL.decF rfl rfl (OpP.eql rfl rfl) (by omega) ?_
          refine JL.nil ?_
          refine J.condF rfl ?_
          refine J.skip ?_
          refine J.seq ?_
        rotate_left 1
        focus
          refine JL.pure rfl rfl (OpP.assign rfl) ?_
          refine JL.nil ?_
          refine J.seq ?_
          refine J.seq ?_
          refine J.region ?_
          refine JL.pure rfl rfl (OpP.move rfl) ?_
          refine JL.decF rfl rfl (OpP.eql rfl rfl) (by omega) ?_
          refine JL.nil ?_
          refine J.condF rfl ?_
          refine J.skip ?_
          refine J.seq ?_
        rotate_left 1
        focus
          refine JL.pure rfl rfl (OpP.assign rfl) ?_
          refine JL.nil ?_
          refine J.seq ?_
          refine J.seq ?_
          refine J.region ?_
          refine JL.pure rfl rfl (OpP.move rfl) ?_
          refine JL.decT rfl rfl (OpP.eql rfl rfl) (by omega) ?_
          refine JL.nil ?_
          refine J.condT rfl ?_
          refine J.region ?_
          refine JL.pure rfl rfl (OpP.move rfl) ?_
          refine JL.pure rfl rfl (OpP.fieldAddr rfl) ?_
          refine JL.read rfl rfl (OpR.load1 rfl (Cell.row (.tail (.tail (.tail .head))) rfl)) ?_
          refine JL.mem rfl rfl (by apply OpM.buildSlice (by rfl) rfl (by rfl); (repeat (first | exact Fills.nil | (apply Fills.cons rfl rfl rfl; (case' hs => ((repeat (first | exact Spl.nil | apply Spl.here | apply Spl.there)); done)))))) ?_; rintro _ _ ⟨b54, rfl, rfl⟩
          refine JL.f5 ?_; refine JL.mem rfl rfl (OpM.appendH rfl (.inl ⟨_, Sl.und inferInstance⟩) (by rfl) rfl rfl (RdO.src (RdO.ofRow (.tail .head) (by first | exact Nat.le_refl _ | decide | omega)) (by first | assumption | exact fc_length _ _ | (simp; done) | (simp; omega))) (one1 rfl) (by simp only [maxLen]; omega) (by omega)) ?_; rintro _ _ ⟨⟨a55, c55, rfl⟩, rfl⟩
          refine JL.pure rfl rfl (OpP.assign rfl) ?_
          refine JL.nil ?_
          refine J.seq ?_
        rotate_left 1
        focus
          refine JL.pure rfl rfl (OpP.assign rfl) ?_
          refine JL.nil ?_
          refine J.seq ?_
          refine J.seq ?_
          refine J.region ?_
          refine JL.pure rfl rfl (OpP.move rfl) ?_
          refine JL.decF rfl rfl (OpP.eql rfl rfl) (by omega) ?_
          refine JL.nil ?_
          refine J.condF rfl ?_
          refine J.skip ?_
          refine J.seq ?_
        rotate_left 1
        · refine J.seq ?_
          refine J.region ?_
          refine JL.pure rfl rfl (OpP.move rfl) ?_
          refine JL.decF rfl rfl (OpP.eql rfl rfl) (by omega) ?_
          refine JL.pure rfl rfl (OpP.move rfl) ?_
          refine JL.skip rfl rfl ?_
          refine JL.skip rfl rfl ?_
          refine JL.pure rfl rfl (OpP.pickF rfl rfl) ?_
          refine JL.nil ?_
          refine J.condF rfl ?_
          refine J.skip ?_
          refine J.seq ?_
          refine J.region ?_
          refine JL.pure rfl rfl (OpP.move rfl) ?_
          refine JL.decF rfl rfl (OpP.eql rfl rfl) (by omega) ?_
          refine JL.pure rfl rfl (OpP.move rfl) ?_
          refine JL.step rfl rfl (OpW.call (first := []) (captured := []) inferInstance rfl rfl (Over_ok bkH_len)) ?_; rintro r67 _ ⟨rfl, rfl⟩
          refine JL.decF rfl rfl (OpP.neBool rfl rfl) (by decide) ?_
          refine JL.pure rfl rfl (OpP.move rfl) ?_
          refine JL.pure rfl rfl (OpP.move rfl) ?_
          refine JL.step rfl rfl (OpW.call (first := []) (captured := []) inferInstance rfl rfl (Records_o (ps := qs) (by omega) hq8 hql)) ?_; rintro r71 _ ⟨a2, ⟨c2, ⟨qs1, ⟨rfl, ⟨h71, ⟨h711, ⟨h712, rfl⟩⟩⟩⟩⟩⟩⟩
          refine JL.pure rfl rfl (OpP.move rfl) ?_
          refine JL.step rfl rfl (OpW.call (first := []) (captured := []) inferInstance rfl rfl (Same_ok (ps2 := es) (by omega) (by omega) (Parts.conv (fun _ h => Own.pick (pre := [_, _, _, _, _, _]) [0] rfl h) (Parts.ofOwn (F := []) (by assumption))) (hPes.conv (fun _ h => Own.pick (pre := [_, _, _, _, _, _]) [5] rfl h)))) ?_; rintro r73 _ ⟨rfl, rfl⟩
          refine JL.pure rfl rfl (OpP.notB rfl) ?_
          refine JL.pure rfl rfl (OpP.pickF rfl rfl) ?_
          refine JL.nil ?_
          refine J.splitAt 75 rfl (fun h75 => ?_) (fun h75 => ?_)
          focus
            refine J.condT rfl ?_
            refine J.seq ?_
            refine J.region ?_
            refine JL.pure rfl rfl (OpP.assign rfl) ?_
            refine JL.nil ?_
            refine J.ret1 rfl rfl ?_
          rotate_left 1
          focus
            refine J.condF rfl ?_
            refine J.skip ?_
            refine J.inBlock ?_
            refine J.inBlock ?_
            refine J.region ?_
            refine JL.pure rfl rfl (OpP.move rfl) ?_
            refine JL.pure rfl rfl (OpP.addI rfl rfl (by omega) (by omega)) ?_
            refine JL.pure rfl rfl (OpP.assign rfl) ?_
            refine JL.nil ?_
          rotate_left 1
          · exact bad_eq (p := recs qs1 = recs es) (Eq.trans (by assumption) hE) (by assumption)
          · refine back ⟨i + 1, W, cur, T, false, r, clean f (lay W ++ T), es, za, zc, pa, pc, qs, a, c, k⟩ ⟨by dsimp only; omega, by dsimp only; omega, by dsimp only; omega, hi4, hss, .inl ⟨rfl, f, rfl⟩, hes, her, hqs, hql, hpr⟩ (by dsimp only; omega) (by repeat (first | exact SubEnv.nil | refine SubEnv.cons (by first | rfl | exact congrArg (fun z => some (Value.int .i64 z)) (by omega) | (simp; done)) ?_)) (fun _ h => Own.pick (pre := [_, _, _, _, _, _]) [1, 2, 3, 5] rfl h)
        · refine J.seq ?_
          refine J.region ?_
          refine JL.pure rfl rfl (OpP.move rfl) ?_
          refine JL.decF rfl rfl (OpP.eql rfl rfl) (by omega) ?_
          refine JL.pure rfl rfl (OpP.move rfl) ?_
          refine JL.skip rfl rfl ?_
          refine JL.skip rfl rfl ?_
          refine JL.pure rfl rfl (OpP.pickF rfl rfl) ?_
          refine JL.nil ?_
          refine J.condF rfl ?_
          refine J.skip ?_
          refine J.seq ?_
          refine J.region ?_
          refine JL.pure rfl rfl (OpP.move rfl) ?_
          refine JL.decF rfl rfl (OpP.eql rfl rfl) (by omega) ?_
          refine JL.pure rfl rfl (OpP.move rfl) ?_
          refine JL.step rfl rfl (OpW.call (first := []) (captured := []) inferInstance rfl rfl (Over_ok bkH_len)) ?_; rintro r67 _ ⟨rfl, rfl⟩
          refine JL.decF rfl rfl (OpP.neBool rfl rfl) (by decide) ?_
          refine JL.pure rfl rfl (OpP.move rfl) ?_
          refine JL.pure rfl rfl (OpP.move rfl) ?_
          refine JL.step rfl rfl (OpW.call (first := []) (captured := []) inferInstance rfl rfl (Records_o (ps := qs) (by omega) hq8 hql)) ?_; rintro r71 _ ⟨a2, ⟨c2, ⟨qs1, ⟨rfl, ⟨h71, ⟨h711, ⟨h712, rfl⟩⟩⟩⟩⟩⟩⟩
          refine JL.pure rfl rfl (OpP.move rfl) ?_
          refine JL.step rfl rfl (OpW.call (first := []) (captured := []) inferInstance rfl rfl (Same_ok (ps2 := es) (by omega) (by omega) (Parts.conv (fun _ h => Own.pick (pre := [_, _, _, _, _, _]) [0] rfl h) (Parts.ofOwn (F := []) (by assumption))) (hPes.conv (fun _ h => Own.pick (pre := [_, _, _, _, _, _]) [5] rfl h)))) ?_; rintro r73 _ ⟨rfl, rfl⟩
          refine JL.pure rfl rfl (OpP.notB rfl) ?_
          refine JL.pure rfl rfl (OpP.pickF rfl rfl) ?_
          refine JL.nil ?_
          refine J.splitAt 75 rfl (fun h75 => ?_) (fun h75 => ?_)
          focus
            refine J.condT rfl ?_
            refine J.seq ?_
            refine J.region ?_
            refine JL.pure rfl rfl (OpP.assign rfl) ?_
            refine JL.nil ?_
            refine J.ret1 rfl rfl ?_
          rotate_left 1
          focus
            refine J.condF rfl ?_
            refine J.skip ?_
            refine J.inBlock ?_
            refine J.inBlock ?_
            refine J.region ?_
            refine JL.pure rfl rfl (OpP.move rfl) ?_
            refine JL.pure rfl rfl (OpP.addI rfl rfl (by omega) (by omega)) ?_
            refine JL.pure rfl rfl (OpP.assign rfl) ?_
            refine JL.nil ?_
          rotate_left 1
          · exact bad_eq (p := recs qs1 = recs es) (Eq.trans (by assumption) hE) (by assumption)
          · refine back ⟨i + 1, W, cur, T, false, r, clean f (lay W ++ T), es, za, zc, pa, pc, qs, a, c, k⟩ ⟨by dsimp only; omega, by dsimp only; omega, by dsimp only; omega, hi4, hss, .inl ⟨rfl, f, rfl⟩, hes, her, hqs, hql, hpr⟩ (by dsimp only; omega) (by repeat (first | exact SubEnv.nil | refine SubEnv.cons (by first | rfl | exact congrArg (fun z => some (Value.int .i64 z)) (by omega) | (simp; done)) ?_)) (fun _ h => Own.pick (pre := [_, _, _, _, _, _]) [1, 2, 3, 5] rfl h)
        · have hb4 : o.B.length ≤ 4096 := by assumption
          have hfit : (cut o.B).length ≤ T.length := by assumption
          have hk' : (qs ++ [(Value.slice a1 o.B.length c1, o.B)]).length = qs.length + 1 := by rw [List.length_append]; rfl
          have he' : (es ++ [(Value.slice ba o.B.length bc, o.B)]).length = es.length + 1 := by rw [List.length_append]; rfl
          have hqs' : recs (qs ++ [(Value.slice a1 o.B.length c1, o.B)]) = (W ++ [(o.B, cur)]).map (·.1) := by rw [recs, List.map_append, List.map_append, ← hqs]; rfl
          have hes' : recs (es ++ [(Value.slice ba o.B.length bc, o.B)]) = (W ++ [(o.B, cur)]).map (·.1) := by rw [recs, List.map_append, List.map_append, ← hes]; rfl
          have hql' : ∀ q ∈ qs ++ [(Value.slice a1 o.B.length c1, o.B)], ∃ a c, q.1 = .slice a q.2.length c := fun q hq => by
            rcases List.mem_append.1 hq with hq | hq
            · exact hql q hq
            · simp only [List.mem_singleton] at hq; subst hq; exact ⟨_, _, rfl⟩
          have her' : ∀ p ∈ es ++ [(Value.slice ba o.B.length bc, o.B)], (∃ a c, p.1 = .slice a p.2.length c) ∧ RdO w0 [] p.1 p.2.length (bcells p.2) := fun q hq => by
            rcases List.mem_append.1 hq with hq | hq
            · exact her q hq
            · simp only [List.mem_singleton] at hq; subst hq; exact ⟨⟨_, _, rfl⟩, hRB.o⟩
          have hss' := hss.append (r := o.B) hb4 (by omega) (by omega)
          have hlen' : (lay (W ++ [(o.B, cur)])).length + (T.drop (cut o.B).length).length = 300 := by rw [lay_snoc, List.length_append, secsOf_len, List.length_drop]; dsimp only; omega
          have hwl' : (W ++ [(o.B, cur)]).length = W.length + 1 := by rw [List.length_append]; rfl
          rw [← hk', ← he']
          refine J.conv (l' := [row k 60 (bkC g (cur : Nat) ((lay (W ++ [(o.B, cur)])).length : Nat) (.slice a' (qs ++ [(Value.slice a1 o.B.length c1, o.B)]).length c') (bkH K (W ++ [(o.B, cur)])) ((qs ++ [(Value.slice a1 o.B.length c1, o.B)]).length : Nat) false), ownP (.slice a' (qs ++ [(Value.slice a1 o.B.length c1, o.B)]).length c') (qs ++ [(Value.slice a1 o.B.length c1, o.B)]), diskR g (clean f' (lay (W ++ [(o.B, cur)]) ++ T.drop (cut o.B).length)), own 26 1 (.slice a55 (es ++ [(Value.slice ba o.B.length bc, o.B)]).length c55) (es ++ [(Value.slice ba o.B.length bc, o.B)]).length ((es ++ [(Value.slice ba o.B.length bc, o.B)]).map (·.1))]) (fun _ h => by rw [List.map_append]; exact Own.pick (pre := [_, _, _, _, _, _]) [2, 3, 4, 0] rfl h) ?_
          generalize qs ++ [(Value.slice a1 o.B.length c1, o.B)] = qs' at hk' hqs' hql' ⊢
          generalize es ++ [(Value.slice ba o.B.length bc, o.B)] = es' at he' hes' her' ⊢
          generalize W ++ [(o.B, cur)] = W' at hqs' hes' hss' hlen' hwl' ⊢
          generalize T.drop (cut o.B).length = T' at hss' hlen' ⊢
          have hE' : recs qs' = recs es' := by rw [hqs', hes']
          have hq8' := recs_le hss'.m hqs'
          have hPes' := es_parts (v := .slice a55 es'.length c55) her'
          refine J.seq ?_
          refine J.region ?_
          refine JL.pure rfl rfl (OpP.move rfl) ?_
          refine JL.decF rfl rfl (OpP.eql rfl rfl) (by omega) ?_
          refine JL.pure rfl rfl (OpP.move rfl) ?_
          refine JL.skip rfl rfl ?_
          refine JL.skip rfl rfl ?_
          refine JL.pure rfl rfl (OpP.pickF rfl rfl) ?_
          refine JL.nil ?_
          refine J.condF rfl ?_
          refine J.skip ?_
          refine J.seq ?_
          refine J.region ?_
          refine JL.pure rfl rfl (OpP.move rfl) ?_
          refine JL.decF rfl rfl (OpP.eql rfl rfl) (by omega) ?_
          refine JL.pure rfl rfl (OpP.move rfl) ?_
          refine JL.step rfl rfl (OpW.call (first := []) (captured := []) inferInstance rfl rfl (Over_ok bkH_len)) ?_; rintro r67 _ ⟨rfl, rfl⟩
          refine JL.decF rfl rfl (OpP.neBool rfl rfl) (by decide) ?_
          refine JL.pure rfl rfl (OpP.move rfl) ?_
          refine JL.pure rfl rfl (OpP.move rfl) ?_
          refine JL.step rfl rfl (OpW.call (first := []) (captured := []) inferInstance rfl rfl (Records_o (ps := qs') (by omega) hq8' hql')) ?_; rintro r71 _ ⟨a2, ⟨c2, ⟨qs1, ⟨rfl, ⟨h71, ⟨h711, ⟨h712, rfl⟩⟩⟩⟩⟩⟩⟩
          refine JL.pure rfl rfl (OpP.move rfl) ?_
          refine JL.step rfl rfl (OpW.call (first := []) (captured := []) inferInstance rfl rfl (Same_ok (ps2 := es') (by omega) (by omega) (Parts.conv (fun _ h => Own.pick (pre := [_, _, _, _, _]) [0] rfl h) (Parts.ofOwn (F := []) (by assumption))) (hPes'.conv (fun _ h => Own.pick (pre := [_, _, _, _, _]) [4] rfl h)))) ?_; rintro r73 _ ⟨rfl, rfl⟩
          refine JL.pure rfl rfl (OpP.notB rfl) ?_
          refine JL.pure rfl rfl (OpP.pickF rfl rfl) ?_
          refine JL.nil ?_
          refine J.splitAt 75 rfl (fun h75 => ?_) (fun h75 => ?_)
          focus
            refine J.condT rfl ?_
            refine J.seq ?_
            refine J.region ?_
            refine JL.pure rfl rfl (OpP.assign rfl) ?_
            refine JL.nil ?_
            refine J.ret1 rfl rfl ?_
          rotate_left 1
          focus
            refine J.condF rfl ?_
            refine J.skip ?_
            refine J.inBlock ?_
            refine J.inBlock ?_
            refine J.region ?_
            refine JL.pure rfl rfl (OpP.move rfl) ?_
            refine JL.pure rfl rfl (OpP.addI rfl rfl (by omega) (by omega)) ?_
            refine JL.pure rfl rfl (OpP.assign rfl) ?_
            refine JL.nil ?_
          rotate_left 1
          · exact bad_eq (p := recs qs1 = recs es') (Eq.trans (by assumption) hE') (by assumption)
          · refine back ⟨i + 1, W', cur, T', false, r, clean f' (lay W' ++ T'), es', a55, c55, pa, pc, qs', a', c', k⟩ ⟨by dsimp only; omega, by dsimp only; omega, by dsimp only; omega, hlen', hss', .inl ⟨rfl, f', rfl⟩, hes', her', hqs', hql', hpr⟩ (by dsimp only; omega) (by repeat (first | exact SubEnv.nil | refine SubEnv.cons (by first | rfl | exact congrArg (fun z => some (Value.int .i64 z)) (by omega) | (simp; done)) ?_)) (fun _ h => Own.pick (pre := [_, _, _, _, _]) [1, 2, 3, 4] rfl h)
        · refine J.seq ?_
          refine J.region ?_
          refine JL.pure rfl rfl (OpP.move rfl) ?_
          refine JL.decT rfl rfl (OpP.eql rfl rfl) (by omega) ?_
          refine JL.pure rfl rfl (OpP.move rfl) ?_
          refine JL.pure rfl rfl (OpP.move rfl) ?_
          refine JL.pure rfl rfl (OpP.notB rfl) ?_
          refine JL.pure rfl rfl (OpP.pickT rfl rfl) ?_
          refine JL.nil ?_
          refine J.condT rfl ?_
          refine J.seq ?_
          refine J.region ?_
          refine JL.pure rfl rfl (OpP.fieldAddr rfl) ?_
          refine JL.read rfl rfl (OpR.load1 rfl (Cell.row (.tail (.tail (.tail .head))) rfl)) ?_
          refine JL.pure rfl rfl (OpP.assign rfl) ?_
          refine JL.nil ?_
          refine J.region ?_
          refine JL.pure rfl rfl (OpP.assign rfl) ?_
          refine JL.nil ?_
          refine J.seq ?_
          refine J.region ?_
          refine JL.pure rfl rfl (OpP.move rfl) ?_
          refine JL.decT rfl rfl (OpP.eql rfl rfl) (by omega) ?_
          refine JL.pure rfl rfl (OpP.move rfl) ?_
          refine JL.step rfl rfl (OpW.call (first := []) (captured := []) inferInstance rfl rfl (Over_ok bkH_len)) ?_; rintro r67 _ ⟨rfl, rfl⟩
          refine JL.decF rfl rfl (OpP.neBool rfl rfl) (by decide) ?_
          refine JL.pure rfl rfl (OpP.move rfl) ?_
          refine JL.pure rfl rfl (OpP.move rfl) ?_
          refine JL.step rfl rfl (OpW.call (first := []) (captured := []) inferInstance rfl rfl (Records_o (ps := qs) (by omega) hq8 hql)) ?_; rintro r71 _ ⟨a2, ⟨c2, ⟨qs1, ⟨rfl, ⟨h71, ⟨h711, ⟨h712, rfl⟩⟩⟩⟩⟩⟩⟩
          refine JL.pure rfl rfl (OpP.move rfl) ?_
          refine JL.step rfl rfl (OpW.call (first := []) (captured := []) inferInstance rfl rfl (Same_ok (ps2 := es) (by omega) (by omega) (Parts.conv (fun _ h => Own.pick (pre := [_, _, _, _, _, _]) [0] rfl h) (Parts.ofOwn (F := []) (by assumption))) (hPes.conv (fun _ h => Own.pick (pre := [_, _, _, _, _, _]) [5] rfl h)))) ?_; rintro r73 _ ⟨rfl, rfl⟩
          refine JL.pure rfl rfl (OpP.notB rfl) ?_
          refine JL.pure rfl rfl (OpP.pickF rfl rfl) ?_
          refine JL.nil ?_
          refine J.splitAt 75 rfl (fun h75 => ?_) (fun h75 => ?_)
          focus
            refine J.condT rfl ?_
            refine J.seq ?_
            refine J.region ?_
            refine JL.pure rfl rfl (OpP.assign rfl) ?_
            refine JL.nil ?_
            refine J.ret1 rfl rfl ?_
          rotate_left 1
          focus
            refine J.condF rfl ?_
            refine J.skip ?_
            refine J.inBlock ?_
            refine J.inBlock ?_
            refine J.region ?_
            refine JL.pure rfl rfl (OpP.move rfl) ?_
            refine JL.pure rfl rfl (OpP.addI rfl rfl (by omega) (by omega)) ?_
            refine JL.pure rfl rfl (OpP.assign rfl) ?_
            refine JL.nil ?_
          rotate_left 1
          · exact bad_eq (p := recs qs1 = recs es) (Eq.trans (by assumption) hE) (by assumption)
          · refine back ⟨i + 1, W, cur, T, true, o.B, _, es, za, zc, ba, bc, qs, a, c, k⟩ ⟨by dsimp only; omega, by dsimp only; omega, by dsimp only; omega, hi4, hss, DS.lost (f := f) (by assumption) (by assumption) (by assumption), hes, her, hqs, hql, hRB.o⟩ (by dsimp only; omega) (by repeat (first | exact SubEnv.nil | refine SubEnv.cons (by first | rfl | exact congrArg (fun z => some (Value.int .i64 z)) (by omega) | (simp; done)) ?_)) (fun _ h => Own.pick (pre := [_, _, _, _, _, _]) [1, 2, 3, 5] rfl h)
      · have hwl : D.ws.length + 79 ≤ 1000 := by rw [hws, numd_len, List.length_take]; omega
        refine J.seq ?_
        refine J.region ?_
        refine JL.pure rfl rfl (OpP.move rfl) ?_
        refine JL.pure rfl rfl (OpP.fieldAddr rfl) ?_
        refine JL.read rfl rfl (OpR.load1 rfl (Cell.row .head rfl)) ?_
        refine JL.f3 ?_; refine JL.f3 ?_; refine JL.f3 ?_; refine JL.step rfl rfl (OpW.call (first := []) (captured := []) inferInstance rfl rfl (append_over (D := D) (bs := o.B) (n := (lay W).length) (G := cur) (cnt := qs.length) hK bkH_len (by omega) (by omega) (by omega) (by omega) (by omega) hwl hRB.ao)) ?_; rintro r48 _ ⟨rfl, rfl⟩
        refine JL.pure rfl rfl (OpP.assign rfl) ?_
        refine JL.nil ?_
        refine J.seq ?_
        refine J.seq ?_
        refine J.region ?_
        refine JL.pure rfl rfl (OpP.move rfl) ?_
        refine JL.decF rfl rfl (OpP.eql rfl rfl) (by omega) ?_
        refine JL.nil ?_
        refine J.condF rfl ?_
        refine J.skip ?_
        refine J.seq ?_
        refine J.seq ?_
        refine J.region ?_
        refine JL.pure rfl rfl (OpP.move rfl) ?_
        refine JL.decT rfl rfl (OpP.eql rfl rfl) (by omega) ?_
        refine JL.pure rfl rfl (OpP.move rfl) ?_
        refine JL.pure rfl rfl (OpP.move rfl) ?_
        refine JL.pure rfl rfl (OpP.notB rfl) ?_
        refine JL.pure rfl rfl (OpP.pickT rfl rfl) ?_
        refine JL.nil ?_
        refine J.condF rfl ?_
        refine J.skip ?_
        refine J.seq ?_
        refine J.region ?_
        refine JL.pure rfl rfl (OpP.move rfl) ?_
        refine JL.decT rfl rfl (OpP.eql rfl rfl) (by omega) ?_
        refine JL.pure rfl rfl (OpP.move rfl) ?_
        refine JL.step rfl rfl (OpW.call (first := []) (captured := []) inferInstance rfl rfl (Over_ok bkH_len)) ?_; rintro r67 _ ⟨rfl, rfl⟩
        refine JL.decF rfl rfl (OpP.neBool rfl rfl) (by decide) ?_
        refine JL.pure rfl rfl (OpP.move rfl) ?_
        refine JL.pure rfl rfl (OpP.move rfl) ?_
        refine JL.step rfl rfl (OpW.call (first := []) (captured := []) inferInstance rfl rfl (Records_o (ps := qs) (by omega) hq8 hql)) ?_; rintro r71 _ ⟨a2, ⟨c2, ⟨qs1, ⟨rfl, ⟨h71, ⟨h711, ⟨h712, rfl⟩⟩⟩⟩⟩⟩⟩
        refine JL.pure rfl rfl (OpP.move rfl) ?_
        refine JL.step rfl rfl (OpW.call (first := []) (captured := []) inferInstance rfl rfl (Same_ok (ps2 := es) (by omega) (by omega) (Parts.conv (fun _ h => Own.pick (pre := [_, _, _, _, _, _]) [0] rfl h) (Parts.ofOwn (F := []) (by assumption))) (hPes.conv (fun _ h => Own.pick (pre := [_, _, _, _, _, _]) [5] rfl h)))) ?_; rintro r73 _ ⟨rfl, rfl⟩
        refine JL.pure rfl rfl (OpP.notB rfl) ?_
        refine JL.pure rfl rfl (OpP.pickF rfl rfl) ?_
        refine JL.nil ?_
        refine J.splitAt 75 rfl (fun h75 => ?_) (fun h75 => ?_)
        focus
          refine J.condT rfl ?_
          refine J.seq ?_
          refine J.region ?_
          refine JL.pure rfl rfl (OpP.assign rfl) ?_
          refine JL.nil ?_
          refine J.ret1 rfl rfl ?_
        rotate_left 1
        focus
          refine J.condF rfl ?_
          refine J.skip ?_
          refine J.inBlock ?_
          refine J.inBlock ?_
          refine J.region ?_
          refine JL.pure rfl rfl (OpP.move rfl) ?_
          refine JL.pure rfl rfl (OpP.addI rfl rfl (by omega) (by omega)) ?_
          refine JL.pure rfl rfl (OpP.assign rfl) ?_
          refine JL.nil ?_
        rotate_left 1
        · exact bad_eq (p := recs qs1 = recs es) (Eq.trans (by assumption) hE) (by assumption)
        · refine back ⟨i + 1, W, cur, T, true, r, D, es, za, zc, pa, pc, qs, a, c, k⟩ ⟨by dsimp only; omega, by dsimp only; omega, by dsimp only; omega, hi4, hss, .inr ⟨rfl, hz, hfl, hnl, ⟨j, hj, hws⟩, hr4⟩, hes, her, hqs, hql, hpr⟩ (by dsimp only; omega) (by repeat (first | exact SubEnv.nil | refine SubEnv.cons (by first | rfl | exact congrArg (fun z => some (Value.int .i64 z)) (by omega) | (simp; done)) ?_)) (fun _ h => Own.pick (pre := [_, _, _, _, _, _]) [1, 2, 3, 5] rfl h)
  · have : i = l.length := by omega
    subst this
    refine J.seq ?_
    refine J.seq ?_
    refine J.region ?_
    refine JL.pure rfl rfl (OpP.move rfl) ?_
    refine JL.pure rfl rfl (OpP.move rfl) ?_
    refine JL.pure rfl rfl (OpP.len rfl rfl) ?_
    refine JL.decF rfl rfl (OpP.lss rfl rfl) (by omega) ?_
    refine JL.nil ?_
    refine J.condF rfl ?_
    refine J.exit rfl ?_
    refine J.seq ?_
    refine J.region ?_
    refine JL.pure rfl rfl (OpP.assign rfl) ?_
    refine JL.nil ?_
    refine J.ret1 rfl rfl ?_
    rfl
theorem BookCrashes_law {W : World} {a : Option Addr} {n c : Nat} (hK : Tab W 0 64 fun j => w32 (Kc j)) (h : Fm Tryd.prog W 42 [.slice a n c]) :
    Calls Tryd.prog 6 #[.slice a n c] W fun e w' => e = .returned (.bool true) ∧ Below W.heap.size W w' := by
  obtain ⟨l, hl, _, hr⟩ := Fm.rows (f := ocell) (Q := fun o => o.Ok W) Tryd.underlying42 (sz := 4) (by kernel_rfl) (by decide) h fun cs _ hf => Fm.opF hf
  exact FnO.law (args := [.slice a n c]) (BookCrashes_ok (fun _ => awake_ok hK) hK hexKc (hr []) fun o ho => (hl o ho).1) (Own.nil W)
end Go.Proofs.F
