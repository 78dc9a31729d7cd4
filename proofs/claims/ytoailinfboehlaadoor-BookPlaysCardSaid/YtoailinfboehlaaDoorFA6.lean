/- A text of the proof of a statement about the given program: its part FA6. No person has read it. -/
import Derived.Test.YtoailinfboehlaaDoorFA5
import Derived.Test.YtoailinfboehlaaDoorFJ2
import Derived.Test.YtoailinfboehlaaDoorFA1
-- seat f
namespace Go.Proofs.F
open Go Go.Gp Go.RowKit
open Disk hiding spl_all

structure CS where
  i : Nat
  W : Wr
  cur : Nat
  T : List Sec
  over : Bool
  r : List UInt8
  D : Dk
  es : List (Value × List UInt8)
  za : Option Addr
  zc : Nat
  pa : Option Addr
  pc : Nat
  qs : List (Value × List UInt8)
  a : Option Addr
  c : Nat
  k : Nat
structure CS.Ok (w0 : World) (n : Nat) (s : CS) : Prop where
  i : s.i ≤ n
  w : s.W.length ≤ s.i
  cur : s.cur ≤ s.i + 1
  len : (lay s.W).length + s.T.length = 300
  ss : Sess s.W s.cur s.T
  ds : DS s.W s.cur s.T s.over s.r s.D
  es : recs s.es = s.W.map (·.1)
  er : ∀ p ∈ s.es, (∃ a c, p.1 = .slice a p.2.length c) ∧ RdO w0 [] p.1 p.2.length (bcells p.2)
  qs : recs s.qs = s.W.map (·.1)
  ql : ∀ q ∈ s.qs, ∃ a c, q.1 = .slice a q.2.length c
  pr : RdO w0 [] (.slice s.pa s.r.length s.pc) s.r.length (bcells s.r)
theorem es_parts {w0 : World} {v : Value} {es : List (Value × List UInt8)} (her : ∀ p ∈ es, (∃ a c, p.1 = .slice a p.2.length c) ∧ RdO w0 [] p.1 p.2.length (bcells p.2)) : Parts w0 [own 26 1 v es.length (es.map (·.1))] v es :=
  ⟨RdO.own .head, fun p hp => ⟨(her p hp).1, (her p hp).2.conv fun _ h => own_nil' h⟩⟩
theorem recs_le {W : Wr} {cur : Nat} {qs : List (Value × List UInt8)} (hm : Mono 1 W cur) (hqs : recs qs = W.map (·.1)) : ∀ q ∈ qs, q.2.length ≤ 80000 := fun q hq => by
  have h1 : q.2 ∈ W.map (·.1) := by rw [← hqs]; exact List.mem_map_of_mem hq
  obtain ⟨w, hw1, hw2⟩ := List.mem_map.1 h1
  have := Mono.len hm w hw1
  rw [hw2] at this; omega
end Go.Proofs.F

-- seat f
namespace Go.Proofs.F
open Go Go.Gp Go.RowKit
open Disk hiding spl_all

theorem number_ok {w0 : World} {F : List HProp} {v : Value} {l : List UInt8} (h4 : 4 ≤ l.length) (hr : RdO w0 F v l.length (bcells l)) :
    FnO Tryd.prog w0 32 [v] F (fun r l' => r = .int .i64 (nat8 (l.take 4) : Nat) ∧ l' = F) := by
  refine FnO.rdF (fun _ h => h) hr fun hr1 => ?_
  obtain ⟨b, o, c, rfl, hc, hcs⟩ := hr1.pos (by omega)
  obtain ⟨b0, b1, b2, b3, r, rfl⟩ : ∃ b0 b1 b2 b3 r, l = b0 :: b1 :: b2 :: b3 :: r := by
    match l, h4 with
    | b0 :: b1 :: b2 :: b3 :: r, _ => exact ⟨_, _, _, _, _, rfl⟩
  have e0 : (bcells (b0 :: b1 :: b2 :: b3 :: r))[0]? = some (u8c b0) := rfl
  have e1 : (bcells (b0 :: b1 :: b2 :: b3 :: r))[1]? = some (u8c b1) := rfl
  have e2 : (bcells (b0 :: b1 :: b2 :: b3 :: r))[2]? = some (u8c b2) := rfl
  have e3 : (bcells (b0 :: b1 :: b2 :: b3 :: r))[3]? = some (u8c b3) := rfl
  have t0 := b0.toNat_lt
  have t1 := b1.toNat_lt
  have t2 := b2.toNat_lt
  have t3 := b3.toNat_lt
  have hn : nat8 (b0 :: b1 :: b2 :: b3 :: r |>.take 4) = b0.toNat * 16777216 + b1.toNat * 65536 + b2.toNat * 256 + b3.toNat := by
    simp [nat8]; omega
  have hlen : 4 ≤ (b0 :: b1 :: b2 :: b3 :: r).length := by simp
  rw [hn]
  generalize b0 :: b1 :: b2 :: b3 :: r = l at *
  have k0 : Cell w0 F ⟨b, o + 0, none⟩ (u8c b0) := hcs.at 0 e0
  have k1 : Cell w0 F ⟨b, o + 1, none⟩ (u8c b1) := hcs.at 1 e1
  have k2 : Cell w0 F ⟨b, o + 2, none⟩ (u8c b2) := hcs.at 2 e2
  have k3 : Cell w0 F ⟨b, o + 3, none⟩ (u8c b3) := hcs.at 3 e3
  clear e0 e1 e2 e3 hcs
  refine FnO.weak ?_
  refine FnO.intro (n := 25) Tryd.func32 rfl rfl rfl ?_
  refine J.seq ?_
  refine J.region ?_
  refine JL.pure rfl rfl (OpP.assign rfl) ?_
  refine JL.nil ?_
  refine J.seq ?_
  refine J.regionD [2, 7, 13, 19] (by kernel_rfl) ?_
  refine DL.pure (i := 0) (by kernel_rfl) (by kernel_rfl) rfl rfl rfl (OpP.move rfl) ?_
  refine DL.pure (i := 1) (by kernel_rfl) (by kernel_rfl) rfl rfl rfl (OpP.indexAddr rfl rfl (by omega) (by omega)) ?_
  refine DL.read (i := 2) (by kernel_rfl) (by kernel_rfl) rfl rfl rfl (fun _ h => h) (OpR.load1 rfl (k0.conv (fun _ h => h))) ?_
  refine DL.pure (i := 3) (by kernel_rfl) (by kernel_rfl) rfl rfl rfl (OpP.convI64 rfl (by omega) (by omega)) ?_
  refine DL.pure (i := 4) (by kernel_rfl) (by kernel_rfl) rfl rfl rfl (OpP.mulI rfl rfl (by omega) (by omega)) ?_
  refine DL.pure (i := 5) (by kernel_rfl) (by kernel_rfl) rfl rfl rfl (OpP.move rfl) ?_
  refine DL.pure (i := 6) (by kernel_rfl) (by kernel_rfl) rfl rfl rfl (OpP.indexAddr rfl rfl (by omega) (by omega)) ?_
  refine DL.read (i := 7) (by kernel_rfl) (by kernel_rfl) rfl rfl rfl (fun _ h => h) (OpR.load1 rfl (k1.conv (fun _ h => h))) ?_
  refine DL.pure (i := 8) (by kernel_rfl) (by kernel_rfl) rfl rfl rfl (OpP.convI64 rfl (by omega) (by omega)) ?_
  refine DL.pure (i := 9) (by kernel_rfl) (by kernel_rfl) rfl rfl rfl (OpP.mulI rfl rfl (by omega) (by omega)) ?_
  refine DL.pure (i := 10) (by kernel_rfl) (by kernel_rfl) rfl rfl rfl (OpP.addI rfl rfl (by omega) (by omega)) ?_
  refine DL.pure (i := 11) (by kernel_rfl) (by kernel_rfl) rfl rfl rfl (OpP.move rfl) ?_
  refine DL.pure (i := 12) (by kernel_rfl) (by kernel_rfl) rfl rfl rfl (OpP.indexAddr rfl rfl (by omega) (by omega)) ?_
  refine DL.read (i := 13) (by kernel_rfl) (by kernel_rfl) rfl rfl rfl (fun _ h => h) (OpR.load1 rfl (k2.conv (fun _ h => h))) ?_
  refine DL.pure (i := 14) (by kernel_rfl) (by kernel_rfl) rfl rfl rfl (OpP.convI64 rfl (by omega) (by omega)) ?_
  refine DL.pure (i := 15) (by kernel_rfl) (by kernel_rfl) rfl rfl rfl (OpP.mulI rfl rfl (by omega) (by omega)) ?_
  refine DL.pure (i := 16) (by kernel_rfl) (by kernel_rfl) rfl rfl rfl (OpP.addI rfl rfl (by omega) (by omega)) ?_
  refine DL.pure (i := 17) (by kernel_rfl) (by kernel_rfl) rfl rfl rfl (OpP.move rfl) ?_
  refine DL.pure (i := 18) (by kernel_rfl) (by kernel_rfl) rfl rfl rfl (OpP.indexAddr rfl rfl (by omega) (by omega)) ?_
  refine DL.read (i := 19) (by kernel_rfl) (by kernel_rfl) rfl rfl rfl (fun _ h => h) (OpR.load1 rfl (k3.conv (fun _ h => h))) ?_
  refine DL.pure (i := 20) (by kernel_rfl) (by kernel_rfl) rfl rfl rfl (OpP.convI64 rfl (by omega) (by omega)) ?_
  refine DL.pure (i := 21) (by kernel_rfl) (by kernel_rfl) rfl rfl rfl (OpP.addI rfl rfl (by omega) (by omega)) ?_
  refine DL.pure (i := 22) (by kernel_rfl) (by kernel_rfl) rfl rfl rfl (OpP.assign rfl) ?_
  refine DL.done (by kernel_rfl) ?_
  refine J.ret1 rfl rfl ?_
  rw [show ((b0.toNat : Int) * 16777216 + b1.toNat * 65536 + b2.toNat * 256 + b3.toNat) = ((b0.toNat * 16777216 + b1.toNat * 65536 + b2.toNat * 256 + b3.toNat : Nat) : Int) by omega]
  exact ⟨_, ⟨rfl, rfl⟩, fun _ h => h⟩
theorem all_ok {w0 : World} {F : List HProp} {g : Nat} {D : Dk} (hf : D.fuse ≠ 0) :
    FnO Tryd.prog w0 19 [.pointer (some ⟨g, 0, none⟩)] (diskR g D :: F) (fun u l' => ∃ (a : Option Addr) (c : Nat) (qs : List (Value × List UInt8)), recs qs = D.now ∧ (∀ q ∈ qs, ∃ a c, q.1 = .slice a q.2.length c) ∧ u = .slice a qs.length c ∧ l' = ownP (.slice a qs.length c) qs :: diskR g D :: F) := by
  refine FnO.fact (fun _ h => diskR_ok h) fun hok => ?_
  have hsm := hok.small
  refine FnO.weak ?_
  refine FnO.intro (n := 31) Tryd.func19 rfl rfl rfl ?_
  refine J.seq ?_
  refine J.region ?_
  refine JL.pure rfl rfl (OpP.assign rfl) ?_
  refine JL.nil ?_
  refine J.seq ?_
  refine J.region ?_
  refine JL.pure rfl rfl (OpP.assign rfl) ?_
  refine JL.nil ?_
  refine J.seq ?_
  refine J.seq ?_
  refine J.region ?_
  refine JL.pure rfl rfl (OpP.assign rfl) ?_
  refine JL.nil ?_
  refine J.block ?_
  refine J.loopI (fun x : Nat × Value × List (Value × List UInt8) => D.now.length - x.1) (fun x => x.1 ≤ D.now.length ∧ x.2.2.length = x.1 ∧ recs x.2.2 = D.now.take x.1 ∧ ∀ q ∈ x.2.2, ∃ a c, q.1 = .slice a q.2.length c) (fun x => [(4, .int .i64 (x.1 : Nat)), (0, .pointer (some ⟨g, 0, none⟩)), (3, x.2.1)])
    (fun x => own 26 1 x.2.1 x.1 (x.2.2.map (·.1)) :: ownAll x.2.2.reverse :: diskR g D :: F) (0, .slice none 0 0, []) ⟨Nat.zero_le _, rfl, rfl, fun _ h => nomatch h⟩ (by repeat (first | exact SubEnv.nil | refine SubEnv.cons (by first | rfl | exact congrArg (fun z => some (Value.int .i64 z)) (by omega) | (simp; done)) ?_)) (fun _ h => h.emp_in.own_nil) (fun ⟨i, z, qs⟩ hi back => ?_)
  dsimp only at hi back ⊢
  obtain ⟨hi1, hi2, hi3, hi4⟩ := hi
  by_cases hlt : i < D.now.length
  · refine J.lit .head fun az cz ez => ?_; subst ez
    refine J.seq ?_
    refine J.seq ?_
    refine J.region ?_
    refine JL.pure rfl rfl (OpP.move rfl) ?_
    refine JL.pure rfl rfl (OpP.move rfl) ?_
    refine JL.f2 ?_; refine JL.step rfl rfl (OpW.call (first := []) (captured := []) inferInstance rfl rfl (Sectors_ok (D := D))) ?_; rintro r9 _ ⟨rfl, rfl⟩
    refine JL.decT rfl rfl (OpP.lss rfl rfl) (by omega) ?_
    refine JL.nil ?_
    refine J.condT rfl ?_
    refine J.skip ?_
    refine J.seq ?_
    refine J.block ?_
    refine J.seq ?_
    refine J.region ?_
    refine JL.pure rfl rfl (OpP.move rfl) ?_
    refine JL.pure rfl rfl (OpP.move rfl) ?_
    refine JL.step rfl rfl (OpW.call (first := []) (captured := []) inferInstance rfl rfl (Read_ok (D := D))) ?_; rintro r16 _ (⟨h16, ⟨rfl, rfl⟩⟩ | (⟨h161, ⟨h162, ⟨rfl, rfl⟩⟩⟩ | ⟨h163, ⟨h164, ⟨u, ⟨s, ⟨h165, ⟨h166, ⟨rfl, rfl⟩⟩⟩⟩⟩⟩⟩))
    focus
      refine JL.pure rfl rfl (OpP.move rfl) ?_
      refine JL.pure rfl rfl (OpP.extract rfl rfl) ?_
      refine JL.pure rfl rfl (OpP.extract rfl rfl) ?_
      refine JL.pure rfl rfl (OpP.assign rfl) ?_
      refine JL.pure rfl rfl (OpP.assign rfl) ?_
      refine JL.nil ?_
    rotate_left 1
    focus
      refine JL.pure rfl rfl (OpP.move rfl) ?_
      refine JL.pure rfl rfl (OpP.extract rfl rfl) ?_
      refine JL.pure rfl rfl (OpP.extract rfl rfl) ?_
      refine JL.pure rfl rfl (OpP.assign rfl) ?_
      refine JL.pure rfl rfl (OpP.assign rfl) ?_
      refine JL.nil ?_
    rotate_left 1
    focus
      refine JL.lit .head fun au cu eu => ?_; subst eu
      refine JL.pure rfl rfl (OpP.move rfl) ?_
      refine JL.pure rfl rfl (OpP.extract rfl rfl) ?_
      refine JL.pure rfl rfl (OpP.extract rfl rfl) ?_
      refine JL.pure rfl rfl (OpP.assign rfl) ?_
      refine JL.pure rfl rfl (OpP.assign rfl) ?_
      refine JL.nil ?_
    rotate_left 1
    · exact absurd (by assumption) hf
    · omega
    have hs : D.now[i]? = some s := by assumption
    have hs64 : s.length = 64 := by assumption
    refine J.seq ?_
    refine J.region ?_
    refine JL.pure rfl rfl (OpP.move rfl) ?_
    refine JL.decT rfl rfl (OpP.eql rfl rfl) (by omega) ?_
    refine JL.pure rfl rfl (OpP.move rfl) ?_
    refine JL.pure rfl rfl (OpP.move rfl) ?_
    refine JL.pure rfl rfl (OpP.len rfl rfl) ?_
    refine JL.decT rfl rfl (OpP.eql rfl rfl) (by omega) ?_
    refine JL.pure rfl rfl (OpP.pickT rfl rfl) ?_
    refine JL.nil ?_
    refine J.condT rfl ?_
    refine J.region ?_
    refine JL.pure rfl rfl (OpP.move rfl) ?_
    refine JL.pure rfl rfl (OpP.move rfl) ?_
    refine JL.mem rfl rfl (by apply OpM.buildSlice (by rfl) rfl (by rfl); (repeat (first | exact Fills.nil | (apply Fills.cons rfl rfl rfl; (case' hs => ((repeat (first | exact Spl.nil | apply Spl.here | apply Spl.there)); done)))))) ?_; rintro _ _ ⟨b28, rfl, rfl⟩
    refine JL.f3 ?_; refine JL.mem rfl rfl (OpM.appendH rfl (.inl ⟨_, Sl.und inferInstance⟩) (by rfl) rfl rfl (RdO.src (RdO.ofRow (.tail .head) (by first | exact Nat.le_refl _ | decide | omega)) (by first | assumption | exact fc_length _ _ | (simp; done) | (simp; omega))) (one1 rfl) (by simp only [maxLen]; omega) (by omega)) ?_; rintro _ _ ⟨⟨a29, c29, rfl⟩, rfl⟩
    refine JL.pure rfl rfl (OpP.assign rfl) ?_
    refine JL.nil ?_
    refine J.inBlock ?_
    refine J.region ?_
    refine JL.pure rfl rfl (OpP.move rfl) ?_
    refine JL.pure rfl rfl (OpP.addI rfl rfl (by omega) (by omega)) ?_
    refine JL.pure rfl rfl (OpP.assign rfl) ?_
    refine JL.nil ?_
    refine back (i + 1, .slice a29 (i + 1) c29, qs ++ [(.slice au 64 cu, s)]) ⟨by dsimp only; omega, ?_, ?_, ?_⟩ (by dsimp only; omega) (by repeat (first | exact SubEnv.nil | refine SubEnv.cons (by first | rfl | exact congrArg (fun z => some (Value.int .i64 z)) (by omega) | (simp; done)) ?_)) (fun _ h => ?_)
    · dsimp only
      rw [List.length_append, hi2]; rfl
    · dsimp only
      rw [List.take_add_one, hs, ← hi3, recs, List.map_append]; rfl
    · dsimp only
      intro q hq
      rcases List.mem_append.1 hq with hq | hq
      · exact hi4 q hq
      · simp at hq; subst hq; exact ⟨_, _, by rw [hs64]⟩
    · dsimp only at h ⊢
      have h := Own.star_in (Own.pick (pre := [_, _, _, _, _]) [2, 4, 0, 3] rfl h)
      rw [List.map_append, List.reverse_append]
      refine Own.f1 ?_
      show Own _ _ (star (own 5 1 _ s.length (bcells s)) _ :: _)
      rw [hs64]
      exact h
  · have : i = D.now.length := by omega
    subst this
    rw [List.take_length] at hi3
    refine J.lit .head fun az cz ez => ?_; subst ez
    refine J.seq ?_
    refine J.seq ?_
    refine J.region ?_
    refine JL.pure rfl rfl (OpP.move rfl) ?_
    refine JL.pure rfl rfl (OpP.move rfl) ?_
    refine JL.f2 ?_; refine JL.step rfl rfl (OpW.call (first := []) (captured := []) inferInstance rfl rfl (Sectors_ok (D := D))) ?_; rintro r9 _ ⟨rfl, rfl⟩
    refine JL.decF rfl rfl (OpP.lss rfl rfl) (by omega) ?_
    refine JL.nil ?_
    refine J.condF rfl ?_
    refine J.exit rfl ?_
    refine J.seq ?_
    refine J.region ?_
    refine JL.pure rfl rfl (OpP.move rfl) ?_
    refine JL.pure rfl rfl (OpP.assign rfl) ?_
    refine JL.nil ?_
    refine J.ret1 rfl rfl ?_
    refine ⟨_, ⟨az, cz, qs, hi3, hi4, by rw [hi2], rfl⟩, fun _ h => Own.star_in ?_⟩
    rw [hi2]
    exact Own.pick (pre := [_, _, _]) [1, 2, 0] rfl h
end Go.Proofs.F

-- seat f
namespace Go.Proofs.F
open Go Go.Gp Go.RowKit
open Disk hiding spl_all

theorem beP (n : Nat) : be n 4 = [UInt8.ofNat (n / 2 ^ 24), UInt8.ofNat (n / 2 ^ 16), UInt8.ofNat (n / 2 ^ 8), UInt8.ofNat (n / 2 ^ 0)] := rfl
theorem u8of {k : Nat} (h : k < 256) : Value.int .u8 (k : Int) = u8c (UInt8.ofNat k) := by
  rw [← wrapB, wrap_u8]
  congr 1
  omega
theorem setB {n g i : Nat} (h : i < 4) : (((be n 4).take i ++ (List.replicate (4 - i) (0 : UInt8) ++ ((be g 4).take i ++ List.replicate (60 - i) 0))).set i (UInt8.ofNat (n / 2 ^ (24 - 8 * i)))).set (4 + i) (UInt8.ofNat (g / 2 ^ (24 - 8 * i))) = (be n 4).take (i + 1) ++ (List.replicate (4 - (i + 1)) 0 ++ ((be g 4).take (i + 1) ++ List.replicate (60 - (i + 1)) 0)) := by
  rw [beP, beP]
  match i, h with
  | 0, _ => rfl
  | 1, _ => rfl
  | 2, _ => rfl
  | 3, _ => rfl
theorem refPart_ok {w0 : World} {F : List HProp} {n g p c : Nat} {v : Value} {bs : List UInt8} (hn : n < 4294967296) (hg : g < 4294967296) (hp : p < 256) (hc : c < 256) (hb : bs.length ≤ 52) (hr : RdO w0 F v bs.length (bcells bs)) :
    FnO Tryd.prog w0 44 [.int .i64 (n : Nat), .int .i64 (g : Nat), .int .i64 (p : Nat), .int .i64 (c : Nat), v] F (fun u l' => ∃ a k, u = .slice a 64 k ∧ l' = own 5 1 (.slice a 64 k) 64 (bcells (secOf n g p c bs)) :: F) := by
  refine FnO.rdF (fun _ h => h) hr fun hr1 => ?_
  obtain ⟨va, vc, rfl⟩ := hr1.lit
  refine FnO.weak ?_
  refine FnO.intro (n := 57) Tryd.func44 rfl rfl rfl ?_
  refine J.seq ?_
  refine J.region ?_
  refine JL.pure rfl rfl (OpP.assign rfl) ?_
  refine JL.nil ?_
  refine J.seq ?_
  refine J.region ?_
  refine JL.mem rfl rfl (by apply OpM.make (by rfl) rfl rfl <;> omega) ?_; rintro _ _ ⟨b13, rfl, rfl⟩
  refine JL.pure rfl rfl (OpP.assign rfl) ?_
  refine JL.nil ?_
  refine J.seq ?_
  refine J.seq ?_
  refine J.region ?_
  refine JL.pure rfl rfl (OpP.assign rfl) ?_
  refine JL.nil ?_
  refine J.block ?_
  refine J.loopI (σ := Nat × List UInt8) (fun x => 4 - x.1) (fun x => x.1 ≤ 4 ∧ x.2.length = 64 ∧ x.2 = (be n 4).take x.1 ++ (List.replicate (4 - x.1) 0 ++ ((be g 4).take x.1 ++ List.replicate (60 - x.1) 0))) (fun x => [(12, .int .i64 (x.1 : Nat)), (11, .slice (some ⟨b13, 0, none⟩) 64 64), (0, .int .i64 (n : Nat)), (1, .int .i64 (g : Nat)), (2, .int .i64 (p : Nat)), (3, .int .i64 (c : Nat)), (4, .slice va bs.length vc)])
    (fun x => row b13 5 (bcells x.2) :: F) (0, List.replicate 64 0) ⟨Nat.zero_le _, by simp, rfl⟩ (by repeat (first | exact SubEnv.nil | refine SubEnv.cons (by first | rfl | exact congrArg (fun z => some (Value.int .i64 z)) (by omega) | (simp; done)) ?_)) (fun _ h => by rw [← bcells_z]; exact h) (fun ⟨i, B⟩ hi back => ?_)
  dsimp only at hi back ⊢
  obtain ⟨hi1, hi2, hi3⟩ := hi
  have hbl : (bcells B).length = 64 := by rw [bcells_length]; exact hi2
  by_cases hlt : i < 4
  · refine J.seq ?_
    refine J.seq ?_
    refine J.region ?_
    refine JL.pure rfl rfl (OpP.move rfl) ?_
    refine JL.decT rfl rfl (OpP.lss rfl rfl) (by omega) ?_
    refine JL.nil ?_
    refine J.condT rfl ?_
    refine J.skip ?_
    refine J.seq ?_
    refine J.block ?_
    refine J.seq ?_
    refine J.region ?_
    refine JL.pure rfl rfl (OpP.move rfl) ?_
    refine JL.pure rfl rfl (OpP.move rfl) ?_
    refine JL.pure rfl rfl (OpP.move rfl) ?_
    refine JL.pure rfl rfl (OpP.move rfl) ?_
    refine JL.pure rfl rfl (OpP.mulI rfl rfl (by omega) (by omega)) ?_
    refine JL.pure rfl rfl (OpP.subI rfl rfl (by omega) (by omega)) ?_
    refine JL.pure rfl rfl (OpP.convI rfl (by simp [IntKind.min, IntKind.max, IntKind.signed, IntKind.bits] <;> omega) (by simp [IntKind.min, IntKind.max, IntKind.signed, IntKind.bits] <;> omega)) ?_
    refine JL.pure rfl rfl (OpP.shrN rfl rfl (by omega) (by first | decide | (simp only [IntKind.bits]; omega))) ?_
    refine JL.pure rfl rfl (OpP.conv rfl) ?_
    refine JL.pure rfl rfl (OpP.indexAddr rfl rfl (by omega) (by omega)) ?_
    refine JL.mem0 rfl (by apply OpM.store1 rfl rfl rfl; (case' hu => exact .head); (case' hs => exact spl_at rfl (by first | assumption | omega)); done) ?_; rintro _ _ ⟨rfl, rfl⟩
    refine JL.nil ?_
    rw [wrapB, show 0 + ((i : Nat) : Int).toNat * 1 = i by omega, bcells_set]
    have hx := setB (n := n) (g := g) hlt
    rw [← hi3] at hx
    have hte : (24 - 8 * (i : Int)).toNat = 24 - 8 * i := by omega
    rw [hte]
    have hB1 : (bcells (B.set i (UInt8.ofNat (n / 2 ^ (24 - 8 * i))))).length = 64 := by rw [bcells_length, List.length_set]; exact hi2
    have hB2 : (B.set i (UInt8.ofNat (n / 2 ^ (24 - 8 * i)))).length = 64 := by rw [List.length_set]; exact hi2
    generalize B.set i (UInt8.ofNat (n / 2 ^ (24 - 8 * i))) = B1 at hx hB1 hB2 ⊢
    refine J.region ?_
    refine JL.pure rfl rfl (OpP.move rfl) ?_
    refine JL.pure rfl rfl (OpP.move rfl) ?_
    refine JL.pure rfl rfl (OpP.addI rfl rfl (by omega) (by omega)) ?_
    refine JL.pure rfl rfl (OpP.move rfl) ?_
    refine JL.pure rfl rfl (OpP.move rfl) ?_
    refine JL.pure rfl rfl (OpP.mulI rfl rfl (by omega) (by omega)) ?_
    refine JL.pure rfl rfl (OpP.subI rfl rfl (by omega) (by omega)) ?_
    refine JL.pure rfl rfl (OpP.convI rfl (by simp [IntKind.min, IntKind.max, IntKind.signed, IntKind.bits] <;> omega) (by simp [IntKind.min, IntKind.max, IntKind.signed, IntKind.bits] <;> omega)) ?_
    refine JL.pure rfl rfl (OpP.shrN rfl rfl (by omega) (by first | decide | (simp only [IntKind.bits]; omega))) ?_
    refine JL.pure rfl rfl (OpP.conv rfl) ?_
    refine JL.pure rfl rfl (OpP.indexAddr rfl rfl (by omega) (by omega)) ?_
    refine JL.mem0 rfl (by apply OpM.store1 rfl rfl rfl; (case' hu => exact .head); (case' hs => exact spl_at rfl (by first | assumption | omega)); done) ?_; rintro _ _ ⟨rfl, rfl⟩
    refine JL.nil ?_
    refine J.inBlock ?_
    refine J.region ?_
    refine JL.pure rfl rfl (OpP.move rfl) ?_
    refine JL.pure rfl rfl (OpP.addI rfl rfl (by omega) (by omega)) ?_
    refine JL.pure rfl rfl (OpP.assign rfl) ?_
    refine JL.nil ?_
    rw [hte, wrapB, show 0 + (4 + ((i : Nat) : Int)).toNat * 1 = 4 + i by omega, bcells_set]
    exact back (i + 1, B1.set (4 + i) (UInt8.ofNat (g / 2 ^ (24 - 8 * i)))) ⟨by dsimp only; omega, by rw [List.length_set]; exact hB2, hx⟩ (by dsimp only; omega) (by repeat (first | exact SubEnv.nil | refine SubEnv.cons (by first | rfl | exact congrArg (fun z => some (Value.int .i64 z)) (by omega) | (simp; done)) ?_)) (fun _ h => h)
  · have : i = 4 := by omega
    subst this
    refine J.seq ?_
    refine J.seq ?_
    refine J.region ?_
    refine JL.pure rfl rfl (OpP.move rfl) ?_
    refine JL.decF rfl rfl (OpP.lss rfl rfl) (by omega) ?_
    refine JL.nil ?_
    refine J.condF rfl ?_
    refine J.exit rfl ?_
    refine J.seq ?_
    refine J.region ?_
    refine JL.pure rfl rfl (OpP.move rfl) ?_
    refine JL.pure rfl rfl (OpP.move rfl) ?_
    refine JL.pure rfl rfl (OpP.convI rfl (by simp [IntKind.min, IntKind.max, IntKind.signed, IntKind.bits] <;> omega) (by simp [IntKind.min, IntKind.max, IntKind.signed, IntKind.bits] <;> omega)) ?_
    refine JL.pure rfl rfl (OpP.indexAddr rfl rfl (by omega) (by omega)) ?_
    refine JL.mem0 rfl (by apply OpM.store1 rfl rfl rfl; (case' hu => exact .head); (case' hs => exact spl_at rfl (by first | assumption | omega)); done) ?_; rintro _ _ ⟨rfl, rfl⟩
    refine JL.nil ?_
    rw [show (0 + Int.toNat 8 * 1) = 8 from rfl, u8of (k := p) (by omega), bcells_set]
    obtain ⟨B1, hB1⟩ : ∃ X, X = B.set 8 (UInt8.ofNat p) := ⟨_, rfl⟩
    rw [← hB1]
    have lB1 : (bcells B1).length = 64 := by rw [bcells_length, hB1, List.length_set]; simpa [bcells_length] using hbl
    refine J.seq ?_
    refine J.region ?_
    refine JL.pure rfl rfl (OpP.move rfl) ?_
    refine JL.pure rfl rfl (OpP.move rfl) ?_
    refine JL.pure rfl rfl (OpP.convI rfl (by simp [IntKind.min, IntKind.max, IntKind.signed, IntKind.bits] <;> omega) (by simp [IntKind.min, IntKind.max, IntKind.signed, IntKind.bits] <;> omega)) ?_
    refine JL.pure rfl rfl (OpP.indexAddr rfl rfl (by omega) (by omega)) ?_
    refine JL.mem0 rfl (by apply OpM.store1 rfl rfl rfl; (case' hu => exact .head); (case' hs => exact spl_at rfl (by first | assumption | omega)); done) ?_; rintro _ _ ⟨rfl, rfl⟩
    refine JL.nil ?_
    rw [show (0 + Int.toNat 9 * 1) = 9 from rfl, u8of (k := c) (by omega), bcells_set]
    obtain ⟨B2, hB2⟩ : ∃ X, X = B1.set 9 (UInt8.ofNat c) := ⟨_, rfl⟩
    rw [← hB2]
    have lB2 : (bcells B2).length = 64 := by rw [bcells_length, hB2, List.length_set]; simpa [bcells_length] using lB1
    refine J.seq ?_
    refine J.region ?_
    refine JL.pure rfl rfl (OpP.move rfl) ?_
    refine JL.pure rfl rfl (OpP.move rfl) ?_
    refine JL.pure rfl rfl (OpP.len rfl rfl) ?_
    refine JL.pure rfl rfl (OpP.convI rfl (by simp [IntKind.min, IntKind.max, IntKind.signed, IntKind.bits] <;> omega) (by simp [IntKind.min, IntKind.max, IntKind.signed, IntKind.bits] <;> omega)) ?_
    refine JL.pure rfl rfl (OpP.indexAddr rfl rfl (by omega) (by omega)) ?_
    refine JL.mem0 rfl (by apply OpM.store1 rfl rfl rfl; (case' hu => exact .head); (case' hs => exact spl_at rfl (by first | assumption | omega)); done) ?_; rintro _ _ ⟨rfl, rfl⟩
    refine JL.nil ?_
    rw [show (0 + Int.toNat 11 * 1) = 11 from rfl, u8of (k := bs.length) (by omega), bcells_set]
    obtain ⟨B3, hB3⟩ : ∃ X, X = B2.set 11 (UInt8.ofNat bs.length) := ⟨_, rfl⟩
    rw [← hB3]
    have lB3 : (bcells B3).length = 64 := by rw [bcells_length, hB3, List.length_set]; simpa [bcells_length] using lB2
    have hB3e : B3 = be n 4 ++ (be g 4 ++ ([UInt8.ofNat p, UInt8.ofNat c, 0, UInt8.ofNat bs.length] ++ List.replicate 52 0)) := by
      rw [hB3, hB2, hB1, hi3, beP, beP]; rfl
    have hfin : (bcells B3).take 12 ++ bcells bs ++ (bcells B3).drop (12 + (bcells bs).length) = bcells (secOf n g p c bs) := by
      have e1 : be p 1 = [UInt8.ofNat p] := by rw [be, be]; simp
      have e2 : be c 1 = [UInt8.ofNat c] := by rw [be, be]; simp
      have e3 : be bs.length 2 = [0, UInt8.ofNat bs.length] := by rw [be, be, be, show bs.length / 256 ^ 1 = 0 by omega]; simp
      rw [secOf, e1, e2, e3, hB3e, bcells_length, bcells_take, bcells_drop, ← bcells_append, ← bcells_append]
      congr 1
      have gn : ∀ A : List UInt8, A.length = 12 → (A ++ List.replicate 52 0).take 12 ++ bs ++ (A ++ List.replicate 52 0).drop (12 + bs.length) = A ++ (bs ++ List.replicate (52 - bs.length) 0) := fun A hA => by
        rw [List.take_left' hA, List.drop_append, List.drop_of_length_le (by omega), hA, Nat.add_sub_cancel_left, List.drop_replicate, List.nil_append, List.append_assoc]
      have := gn (be n 4 ++ (be g 4 ++ [UInt8.ofNat p, UInt8.ofNat c, 0, UInt8.ofNat bs.length])) (by rw [List.length_append, List.length_append, be_length, be_length]; rfl)
      simpa only [List.append_assoc, List.cons_append, List.nil_append] using this
    have hspl : Spl (bcells B3) 12 (bcells bs) (bcells (secOf n g p c bs)) := hfin ▸ Spl.mk (by rw [lB3, bcells_length]; omega)
    refine J.seq ?_
    refine J.region ?_
    refine JL.pure rfl rfl (OpP.move rfl) ?_
    refine JL.pure rfl rfl (OpP.sliceFrom 12 rfl rfl rfl (by omega) (by omega)) ?_
    refine JL.pure rfl rfl (OpP.move rfl) ?_
    refine JL.mem rfl rfl (by apply OpM.copyAll rfl rfl rfl ((hr.conv fun _ h => h.tail).src (sz := 1) (by rw [bcells_length]; omega)) (by omega) ⟨_, _, rfl⟩ (bcells_one _) hspl; exact .head) ?_; rintro _ _ ⟨rfl, rfl⟩
    refine JL.nil ?_
    refine J.seq ?_
    refine J.region ?_
    refine JL.pure rfl rfl (OpP.move rfl) ?_
    refine JL.pure rfl rfl (OpP.assign rfl) ?_
    refine JL.nil ?_
    refine J.ret1 rfl rfl ?_
    exact ⟨_, ⟨_, _, rfl, rfl⟩, fun _ h => Own.own_whole (by decide) (by rw [bcells_length, secOf_len hb]) h⟩
end Go.Proofs.F

-- seat f
namespace Go.Proofs.F
open Go Go.Gp Go.RowKit
open Disk hiding spl_all

theorem numTail {w0 : World} {F : List HProp} {s : Sec} {b p c : Nat} (hs : s.length = 64) (hr : RdO w0 F (.slice (some ⟨b, p, none⟩) 64 c) 64 (bcells s)) :
    FnO Tryd.prog w0 32 [.slice (some ⟨b, if c = 4 then p else p + 4 * 1, none⟩) (64 - 4) (c - 4)] F (fun r l' => r = .int .i64 (gen s : Nat) ∧ l' = F) := by
  have h := RdO.from (k := 4) 1 hr (by decide) (by rw [bcells_length, hs])
  rw [show 4 * 1 = 4 from rfl, bcells_drop] at h
  have hl : (s.drop 4).length = 60 := by rw [List.length_drop, hs]
  exact number_ok (l := s.drop 4) (by omega) (by rw [hl]; exact h)
theorem refOne_end {w0 : World} {F : List HProp} {v : Value} {ps : List (Value × List UInt8)} {at' n least : Nat} (hp : Parts w0 F v ps) (hl : ps.length ≤ 8192) (ha : at' ≤ ps.length) (hz : ∀ s, (recs ps)[at']? = some s → s = zsec) :
    FnO Tryd.prog w0 33 [v, .int .i64 (at' : Nat), .int .i64 (n : Nat), .int .i64 (least : Nat)] F (fun u l' => u = .tuple #[.slice none 0 0, .int .i64 0, .int .i64 0] ∧ l' = F) := by
  refine FnO.rdF (fun _ h => h) hp.rd fun hp0 => ?_
  obtain ⟨va, vc, rfl⟩ := hp0.lit
  by_cases hlt : at' < ps.length
  · obtain ⟨pa, pc, s, hpi, hpv, hpr⟩ := hp.at hlt
    obtain rfl : s = zsec := hz s (by rw [recs, List.getElem?_map, hpi]; rfl)
    refine FnO.rdF (fun _ h => h) hpr fun hpr1 => ?_
    obtain ⟨b, o, c', e, hc, hcs⟩ := hpr1.pos (by decide)
    cases e
    have hv9 : (bcells zsec)[9]? = some (.int .u8 0) := rfl
    have k9 : Cell w0 F ⟨b, o + 9, none⟩ (.int .u8 0) := hcs.at 9 hv9
    have hz64 : zsec.length = 64 := by decide
    rw [hz64] at hpv hpr hc
    refine FnO.weak ?_
    refine FnO.intro (n := 107) Tryd.func33 rfl rfl rfl ?_
    refine J.seq ?_
    refine J.region ?_
    refine JL.pure rfl rfl (OpP.assign rfl) ?_
    refine JL.pure rfl rfl (OpP.assign rfl) ?_
    refine JL.pure rfl rfl (OpP.assign rfl) ?_
    refine JL.nil ?_
    refine J.seq ?_
    refine J.seq ?_
    refine J.region ?_
    refine JL.pure rfl rfl (OpP.move rfl) ?_
    refine JL.pure rfl rfl (OpP.move rfl) ?_
    refine JL.pure rfl rfl (OpP.len rfl rfl) ?_
    refine JL.decF rfl rfl (OpP.geq rfl rfl) (by omega) ?_
    refine JL.nil ?_
    refine J.condF rfl ?_
    refine J.skip ?_
    refine J.seq ?_
    refine J.regionD [3, 5, 10] (by kernel_rfl) ?_
    refine DL.pure (i := 0) (by kernel_rfl) (by kernel_rfl) rfl rfl rfl (OpP.move rfl) ?_
    refine DL.pure (i := 1) (by kernel_rfl) (by kernel_rfl) rfl rfl rfl (OpP.move rfl) ?_
    obtain ⟨gva, pva, qva, eva, kva, cva⟩ := hp0.pos (by omega); cases eva
    refine DL.pure (i := 2) (by kernel_rfl) (by kernel_rfl) rfl rfl rfl (OpP.indexAddr rfl rfl (by omega) (by omega)) ?_
    refine DL.read (i := 3) (by kernel_rfl) (by kernel_rfl) rfl rfl rfl (fun _ h => h) (OpR.load1 rfl (by apply Cells.cell cva (fun _ h => h); (case' hv => assumption); (case' ho => omega); done)) ?_
    refine DL.pure (i := 4) (by kernel_rfl) (by kernel_rfl) rfl rfl rfl (OpP.indexAddr rfl rfl (by omega) (by omega)) ?_
    refine DL.read (i := 5) (by kernel_rfl) (by kernel_rfl) rfl rfl rfl (fun _ h => h) (OpR.load1 rfl (by apply Cells.cell hcs (fun _ h => h); (case' hv => assumption); (case' ho => omega); done)) ?_
    refine DL.pure (i := 6) (by kernel_rfl) (by kernel_rfl) rfl rfl rfl (OpP.convI64 rfl (by omega) (by omega)) ?_
    refine DL.pure (i := 7) (by kernel_rfl) (by kernel_rfl) rfl rfl rfl (OpP.move rfl) ?_
    refine DL.pure (i := 8) (by kernel_rfl) (by kernel_rfl) rfl rfl rfl (OpP.move rfl) ?_
    refine DL.pure (i := 9) (by kernel_rfl) (by kernel_rfl) rfl rfl rfl (OpP.indexAddr rfl rfl (by omega) (by omega)) ?_
    refine DL.read (i := 10) (by kernel_rfl) (by kernel_rfl) rfl rfl rfl (fun _ h => h) (OpR.load1 rfl (by apply Cells.cell cva (fun _ h => h); (case' hv => assumption); (case' ho => omega); done)) ?_
    refine DL.pure (i := 11) (by kernel_rfl) (by kernel_rfl) rfl rfl rfl (OpP.sliceFrom 4 rfl rfl rfl (by omega) (by omega)) ?_
    refine DL.only (i := 12) (by kernel_rfl) ?_
    refine DL1.stepK rfl rfl rfl (by exact OpW.call (first := []) (captured := []) inferInstance rfl rfl (numTail (s := zsec) hz64 hpr)) (by rintro _ _ ⟨rfl, rfl⟩ _ h; exact Own.pick (pre := []) [] rfl h) ?_; rintro r34 _ ⟨rfl, rfl⟩
    refine DL.pure (i := 13) (by kernel_rfl) (by kernel_rfl) rfl rfl rfl (OpP.assign rfl) ?_
    refine DL.pure (i := 14) (by kernel_rfl) (by kernel_rfl) rfl rfl rfl (OpP.assign rfl) ?_
    refine DL.done (by kernel_rfl) ?_
    refine J.seq ?_
    refine J.seq ?_
    refine J.region ?_
    refine JL.pure rfl rfl (OpP.move rfl) ?_
    refine JL.decT rfl rfl (OpP.lss rfl rfl) (by omega) ?_
    refine JL.pure rfl rfl (OpP.move rfl) ?_
    refine JL.skip rfl rfl ?_
    refine JL.skip rfl rfl ?_
    refine JL.pure rfl rfl (OpP.pickT rfl rfl) ?_
    refine JL.pure rfl rfl (OpP.move rfl) ?_
    refine JL.skip rfl rfl ?_
    refine JL.skip rfl rfl ?_
    refine JL.skip rfl rfl ?_
    refine JL.skip rfl rfl ?_
    refine JL.skip rfl rfl ?_
    refine JL.skip rfl rfl ?_
    refine JL.pure rfl rfl (OpP.pickT rfl rfl) ?_
    refine JL.pure rfl rfl (OpP.move rfl) ?_
    refine JL.skip rfl rfl ?_
    refine JL.skip rfl rfl ?_
    refine JL.skip rfl rfl ?_
    refine JL.pure rfl rfl (OpP.pickT rfl rfl) ?_
    refine JL.nil ?_
    refine J.condT rfl ?_
    refine J.seq ?_
    refine J.region ?_
    refine JL.pure rfl rfl (OpP.assign rfl) ?_
    refine JL.pure rfl rfl (OpP.assign rfl) ?_
    refine JL.pure rfl rfl (OpP.assign rfl) ?_
    refine JL.nil ?_
    refine J.ret3 rfl rfl rfl rfl ?_
    exact ⟨_, ⟨rfl, rfl⟩, fun _ h => h⟩
  · refine FnO.weak ?_
    refine FnO.intro (n := 107) Tryd.func33 rfl rfl rfl ?_
    refine J.seq ?_
    refine J.region ?_
    refine JL.pure rfl rfl (OpP.assign rfl) ?_
    refine JL.pure rfl rfl (OpP.assign rfl) ?_
    refine JL.pure rfl rfl (OpP.assign rfl) ?_
    refine JL.nil ?_
    refine J.seq ?_
    refine J.seq ?_
    refine J.region ?_
    refine JL.pure rfl rfl (OpP.move rfl) ?_
    refine JL.pure rfl rfl (OpP.move rfl) ?_
    refine JL.pure rfl rfl (OpP.len rfl rfl) ?_
    refine JL.decT rfl rfl (OpP.geq rfl rfl) (by omega) ?_
    refine JL.nil ?_
    refine J.condT rfl ?_
    refine J.seq ?_
    refine J.region ?_
    refine JL.pure rfl rfl (OpP.assign rfl) ?_
    refine JL.pure rfl rfl (OpP.assign rfl) ?_
    refine JL.pure rfl rfl (OpP.assign rfl) ?_
    refine JL.nil ?_
    refine J.ret3 rfl rfl rfl rfl ?_
    exact ⟨_, ⟨rfl, rfl⟩, fun _ h => h⟩
end Go.Proofs.F

-- seat f
namespace Go.Proofs.F
open Go Go.Gp Go.RowKit

theorem cut_join : ∀ (f : Nat) (r : List UInt8), r.length ≤ f → (cut r).flatten = r := by
  intro f
  induction f with
  | zero =>
    intro r h
    have : r = [] := List.eq_nil_of_length_eq_zero (by omega)
    subst this
    rfl
  | succ f ih =>
    intro r h
    by_cases h2 : 52 < r.length
    · rw [cut_long h2, List.flatten_cons, ih _ (by rw [List.length_drop]; omega), List.take_append_drop]
    · rw [cut_short h2]; simp
theorem cut_full : ∀ (f : Nat) (r : List UInt8), r.length ≤ f → ∀ j b, (cut r)[j]? = some b → j + 1 < (cut r).length → b.length = 52 := by
  intro f
  induction f with
  | zero =>
    intro r h j b hb hj
    rw [cut_short (by omega)] at hj
    simp at hj
  | succ f ih =>
    intro r h j b hb hj
    by_cases h2 : 52 < r.length
    · rw [cut_long h2] at hb hj
      cases j with
      | zero =>
        simp only [List.getElem?_cons_zero, Option.some.injEq] at hb
        rw [← hb, List.length_take]; omega
      | succ j =>
        rw [List.getElem?_cons_succ] at hb
        rw [List.length_cons] at hj
        exact ih _ (by rw [List.length_drop]; omega) j b hb (by omega)
    · rw [cut_short h2] at hj
      simp at hj
end Go.Proofs.F

-- seat f
namespace Go.Proofs.F
open Go Go.Gp Go.RowKit
open Disk hiding spl_all

theorem midRd {w0 : World} {F : List HProp} {s : Sec} {b p c k : Nat} (hs : s.length = 64) (hk : k ≤ 52) (hr : RdO w0 F (.slice (some ⟨b, p, none⟩) 64 c) 64 (bcells s)) :
    RdO w0 F (.slice (some ⟨b, if c = 12 then p else p + 12 * 1, none⟩) k (c - 12)) k (bcells ((s.drop 12).take k)) := by
  have h := RdO.from (k := 12) 1 hr (by decide) (by rw [bcells_length, hs])
  have h2 := RdO.to (k := k) 1 h (by omega)
  rw [show 12 * 1 = 12 from rfl, bcells_drop, Nat.mul_one, bcells_take] at h2
  exact h2
theorem be1 (m : Nat) : be m 1 = [UInt8.ofNat m] := by rw [be, be]; simp
theorem be2 {m : Nat} (h : m < 256) : be m 2 = [0, UInt8.ofNat m] := by rw [be, be, be, show m / 256 ^ 1 = 0 by omega]; simp
theorem refPart_u {w0 : World} {F : List HProp} {n g p c : Nat} {v : Value} {bs : List UInt8} (hn : n < 4294967296) (hg : g < 4294967296) (hp : p < 256) (hc : c < 256) (hb : bs.length ≤ 52) (hr : RdO w0 F v bs.length (bcells bs)) :
    FnO Tryd.prog w0 44 [.int .i64 (n : Nat), .int .i64 (g : Nat), .int .i64 (p : Nat), .int .i64 (c : Nat), v] F (fun u l' => ∃ a k, u = .slice a (secOf n g p c bs).length k ∧ l' = own 5 1 (.slice a (secOf n g p c bs).length k) (secOf n g p c bs).length (bcells (secOf n g p c bs)) :: F) := by
  have h := refPart_ok (w0 := w0) (F := F) hn hg hp hc hb hr
  rw [secOf_len hb]
  exact h
theorem refOne_hit {w0 : World} {F : List HProp} {v : Value} {ps : List (Value × List UInt8)} {at' n g least : Nat} {r : List UInt8} (hp : Parts w0 F v ps) (hl : ps.length ≤ 8192) (hn : n < 4294967296) (hg : g < 4294967296) (hle : least ≤ g) (hr4 : r.length ≤ 4096) (ha : at' + (cut r).length ≤ ps.length)
    (hs : ∀ (j : Nat) b, (cut r)[j]? = some b → (recs ps)[at' + j]? = some (secOf n g j (cut r).length b)) :
    FnO Tryd.prog w0 33 [v, .int .i64 (at' : Nat), .int .i64 (n : Nat), .int .i64 (least : Nat)] F (fun u l' => ∃ (a : Option Addr) (k : Nat), u = .tuple #[.slice a r.length k, .int .i64 (g : Nat), .int .i64 ((cut r).length : Nat)] ∧ l' = own 5 1 (.slice a r.length k) r.length (bcells r) :: F) := by
  refine FnO.rdF (fun _ h => h) hp.rd fun hp0 => ?_
  obtain ⟨va, vc, rfl⟩ := hp0.lit
  have hc1 := cut_pos r
  have hc79 := cut_79 hr4
  obtain ⟨b0, hb0⟩ : ∃ b0, (cut r)[0]? = some b0 := ⟨_, List.getElem?_eq_getElem (by omega)⟩
  obtain ⟨pa, pc, s, hpi, hpv, hpr⟩ := hp.at (show at' < ps.length by omega)
  have hb52 := cut_part b0 (List.mem_of_getElem? hb0)
  obtain rfl : s = secOf n g 0 (cut r).length b0 := by
    have h1 := hs 0 b0 hb0
    rw [Nat.add_zero, recs, List.getElem?_map, hpi] at h1
    simpa using h1
  have hs64 : (secOf n g 0 (cut r).length b0).length = 64 := secOf_len hb52
  rw [hs64] at hpv hpr
  refine FnO.rdF (fun _ h => h) hpr fun hpr1 => ?_
  obtain ⟨b, o, c', e, hc, hcs⟩ := hpr1.pos (by decide)
  cases e
  have hv9 : (bcells (secOf n g 0 (cut r).length b0))[9]? = some (.int .u8 ((cut r).length : Nat)) := by
    have h1 := cnt_sec (n := n) (g := g) (p := 0) (c := (cut r).length) (bs := b0) (by omega)
    rw [secOf, beP, beP, be1, be1, u8of (by omega)]
    rfl
  have k9 : Cell w0 F ⟨b, o + 9, none⟩ (.int .u8 ((cut r).length : Nat)) := hcs.at 9 hv9
  have hge := gen_sec (n := n) (p := 0) (c := (cut r).length) (bs := b0) hg
  have hnum := numTail (w0 := w0) (F := F) hs64 hpr
  rw [hge] at hnum
  refine FnO.weak ?_
  refine FnO.intro (n := 107) Tryd.func33 rfl rfl rfl ?_
  refine J.seq ?_
  refine J.region ?_
  refine JL.pure rfl rfl (OpP.assign rfl) ?_
  refine JL.pure rfl rfl (OpP.assign rfl) ?_
  refine JL.pure rfl rfl (OpP.assign rfl) ?_
  refine JL.nil ?_
  refine J.seq ?_
  refine J.seq ?_
  refine J.region ?_
  refine JL.pure rfl rfl (OpP.move rfl) ?_
  refine JL.pure rfl rfl (OpP.move rfl) ?_
  refine JL.pure rfl rfl (OpP.len rfl rfl) ?_
  refine JL.decF rfl rfl (OpP.geq rfl rfl) (by omega) ?_
  refine JL.nil ?_
  refine J.condF rfl ?_
  refine J.skip ?_
  refine J.seq ?_
  refine J.regionD [3, 5, 10] (by kernel_rfl) ?_
  refine DL.pure (i := 0) (by kernel_rfl) (by kernel_rfl) rfl rfl rfl (OpP.move rfl) ?_
  refine DL.pure (i := 1) (by kernel_rfl) (by kernel_rfl) rfl rfl rfl (OpP.move rfl) ?_
  obtain ⟨gva, pva, qva, eva, kva, cva⟩ := hp0.pos (by omega); cases eva
  refine DL.pure (i := 2) (by kernel_rfl) (by kernel_rfl) rfl rfl rfl (OpP.indexAddr rfl rfl (by omega) (by omega)) ?_
  refine DL.read (i := 3) (by kernel_rfl) (by kernel_rfl) rfl rfl rfl (fun _ h => h) (OpR.load1 rfl (by apply Cells.cell cva (fun _ h => h); (case' hv => assumption); (case' ho => omega); done)) ?_
  refine DL.pure (i := 4) (by kernel_rfl) (by kernel_rfl) rfl rfl rfl (OpP.indexAddr rfl rfl (by omega) (by omega)) ?_
  refine DL.read (i := 5) (by kernel_rfl) (by kernel_rfl) rfl rfl rfl (fun _ h => h) (OpR.load1 rfl (by apply Cells.cell hcs (fun _ h => h); (case' hv => assumption); (case' ho => omega); done)) ?_
  refine DL.pure (i := 6) (by kernel_rfl) (by kernel_rfl) rfl rfl rfl (OpP.convI64 rfl (by omega) (by omega)) ?_
  refine DL.pure (i := 7) (by kernel_rfl) (by kernel_rfl) rfl rfl rfl (OpP.move rfl) ?_
  refine DL.pure (i := 8) (by kernel_rfl) (by kernel_rfl) rfl rfl rfl (OpP.move rfl) ?_
  refine DL.pure (i := 9) (by kernel_rfl) (by kernel_rfl) rfl rfl rfl (OpP.indexAddr rfl rfl (by omega) (by omega)) ?_
  refine DL.read (i := 10) (by kernel_rfl) (by kernel_rfl) rfl rfl rfl (fun _ h => h) (OpR.load1 rfl (by apply Cells.cell cva (fun _ h => h); (case' hv => assumption); (case' ho => omega); done)) ?_
  refine DL.pure (i := 11) (by kernel_rfl) (by kernel_rfl) rfl rfl rfl (OpP.sliceFrom 4 rfl rfl rfl (by omega) (by omega)) ?_
  refine DL.only (i := 12) (by kernel_rfl) ?_
  refine DL1.stepK rfl rfl rfl (by exact OpW.call (first := []) (captured := []) inferInstance rfl rfl hnum) (by rintro _ _ ⟨rfl, rfl⟩ _ h; exact Own.pick (pre := []) [] rfl h) ?_; rintro r34 _ ⟨rfl, rfl⟩
  refine DL.pure (i := 13) (by kernel_rfl) (by kernel_rfl) rfl rfl rfl (OpP.assign rfl) ?_
  refine DL.pure (i := 14) (by kernel_rfl) (by kernel_rfl) rfl rfl rfl (OpP.assign rfl) ?_
  refine DL.done (by kernel_rfl) ?_
  refine J.seq ?_
  refine J.seq ?_
  refine J.region ?_
  refine JL.pure rfl rfl (OpP.move rfl) ?_
  refine JL.decF rfl rfl (OpP.lss rfl rfl) (by omega) ?_
  refine JL.pure rfl rfl (OpP.move rfl) ?_
  refine JL.pure rfl rfl (OpP.move rfl) ?_
  refine JL.decF rfl rfl (OpP.gtr rfl rfl) (by omega) ?_
  refine JL.pure rfl rfl (OpP.pickF rfl rfl) ?_
  refine JL.pure rfl rfl (OpP.move rfl) ?_
  refine JL.pure rfl rfl (OpP.move rfl) ?_
  refine JL.pure rfl rfl (OpP.move rfl) ?_
  refine JL.pure rfl rfl (OpP.addI rfl rfl (by omega) (by omega)) ?_
  refine JL.pure rfl rfl (OpP.move rfl) ?_
  refine JL.pure rfl rfl (OpP.len rfl rfl) ?_
  refine JL.decF rfl rfl (OpP.gtr rfl rfl) (by omega) ?_
  refine JL.pure rfl rfl (OpP.pickF rfl rfl) ?_
  refine JL.pure rfl rfl (OpP.move rfl) ?_
  refine JL.pure rfl rfl (OpP.move rfl) ?_
  refine JL.pure rfl rfl (OpP.move rfl) ?_
  refine JL.decF rfl rfl (OpP.lss rfl rfl) (by omega) ?_
  refine JL.pure rfl rfl (OpP.pickF rfl rfl) ?_
  refine JL.nil ?_
  refine J.condF rfl ?_
  refine J.skip ?_
  refine J.seq ?_
  refine J.region ?_
  refine JL.pure rfl rfl (OpP.assign rfl) ?_
  refine JL.nil ?_
  refine J.seq ?_
  refine J.seq ?_
  refine J.region ?_
  refine JL.pure rfl rfl (OpP.assign rfl) ?_
  refine JL.nil ?_
  refine J.block ?_
  rename_i F
  have hcut : ∀ i, ((cut r).take i).flatten.length ≤ 4096 := fun i => by
    have h1 := congrArg List.length (cut_join _ r (Nat.le_refl _))
    have h2 : (cut r).flatten = ((cut r).take i).flatten ++ ((cut r).drop i).flatten := by rw [← List.flatten_append, List.take_append_drop]
    rw [h2, List.length_append] at h1
    omega
  refine J.loopI (σ := Nat × Option Addr × Nat) (fun x => (cut r).length - x.1) (fun x => x.1 ≤ (cut r).length)
    (fun x => [(14, .int .i64 (x.1 : Nat)), (13, .slice x.2.1 ((cut r).take x.1).flatten.length x.2.2), (12, .int .i64 (g : Nat)), (11, .int .i64 ((cut r).length : Nat)), (0, .slice (some ⟨gva, pva, none⟩) ps.length vc), (1, .int .i64 (at' : Nat)), (2, .int .i64 (n : Nat))])
    (fun x => own 5 1 (.slice x.2.1 ((cut r).take x.1).flatten.length x.2.2) ((cut r).take x.1).flatten.length (bcells ((cut r).take x.1).flatten) :: F) (0, none, 0) (Nat.zero_le _) (by repeat (first | exact SubEnv.nil | refine SubEnv.cons (by first | rfl | exact congrArg (fun z => some (Value.int .i64 z)) (by omega) | (simp; done)) ?_)) (fun _ h => Own.own_nil h) (fun ⟨i, aa, ak⟩ hi back => ?_)
  dsimp only at hi back ⊢
  have hci := hcut i
  by_cases hlt : i < (cut r).length
  · obtain ⟨bi, hbi⟩ : ∃ bi, (cut r)[i]? = some bi := ⟨_, List.getElem?_eq_getElem hlt⟩
    have hbi52 := cut_part bi (List.mem_of_getElem? hbi)
    have hfull := cut_full _ r (Nat.le_refl _) i bi hbi
    have htk : ((cut r).take (i + 1)).flatten = ((cut r).take i).flatten ++ bi := by rw [List.take_add_one, hbi, List.flatten_append]; simp
    obtain ⟨qa, qc, s, hqi, hqv, hqr⟩ := hp.at (show at' + i < ps.length by omega)
    obtain rfl : s = secOf n g i (cut r).length bi := by
      have h1 := hs i bi hbi
      rw [recs, List.getElem?_map, hqi] at h1
      simpa using h1
    have hs64i : (secOf n g i (cut r).length bi).length = 64 := secOf_len hbi52
    have hqr64 := hqr
    rw [hs64i] at hqr64
    refine J.rd (hqr.conv fun _ h => h.tail) fun hqr1 => ?_
    obtain ⟨b2, o2, c2, e2, hc2, hcs2⟩ := hqr1.pos (by omega)
    cases e2
    have hmid := midRd (k := bi.length) hs64i hbi52 hqr64
    have ebi : ((secOf n g i (cut r).length bi).drop 12).take bi.length = bi := by rw [drop12, List.take_left]
    rw [ebi] at hmid
    have hv10 : (bcells (secOf n g i (cut r).length bi))[10]? = some (.int .u8 0) := by
      rw [secOf, beP, beP, be1, be1, be2 (by omega)]
      rfl
    have hv11 : (bcells (secOf n g i (cut r).length bi))[11]? = some (.int .u8 (bi.length : Nat)) := by
      rw [secOf, beP, beP, be1, be1, be2 (by omega), u8of (by omega)]
      rfl
    have k10 := hcs2.at 10 hv10
    have k11 := hcs2.at 11 hv11
    clear hcs2 hv9 hcs k9
    have hbcl : (bcells bi).length = bi.length * 1 := by rw [bcells_length]; omega
    have hacl : (bcells ((cut r).take i).flatten).length = ((cut r).take i).flatten.length * 1 := by rw [bcells_length]; omega
    refine J.seq ?_
    refine J.seq ?_
    refine J.region ?_
    refine JL.pure rfl rfl (OpP.move rfl) ?_
    refine JL.pure rfl rfl (OpP.move rfl) ?_
    refine JL.decT rfl rfl (OpP.lss rfl rfl) (by omega) ?_
    refine JL.nil ?_
    refine J.condT rfl ?_
    refine J.skip ?_
    refine J.seq ?_
    refine J.block ?_
    refine J.seq ?_
    refine J.region ?_
    refine JL.pure rfl rfl (OpP.move rfl) ?_
    refine JL.pure rfl rfl (OpP.move rfl) ?_
    refine JL.pure rfl rfl (OpP.move rfl) ?_
    refine JL.pure rfl rfl (OpP.addI rfl rfl (by omega) (by omega)) ?_
    refine JL.pure rfl rfl (OpP.indexAddr rfl rfl (by omega) (by omega)) ?_
    refine JL.read rfl rfl (OpR.load1 rfl (by apply Cells.cell cva (fun _ h => Own.pick (pre := [_]) [] rfl h); (case' hv => assumption); (case' ho => omega); done)) ?_
    refine JL.pure rfl rfl (OpP.assign rfl) ?_
    refine JL.nil ?_
    refine J.seq ?_
    refine J.regionD [2, 7] (by kernel_rfl) ?_
    refine DL.pure (i := 0) (by kernel_rfl) (by kernel_rfl) rfl rfl rfl (OpP.move rfl) ?_
    refine DL.pure (i := 1) (by kernel_rfl) (by kernel_rfl) rfl rfl rfl (OpP.indexAddr rfl rfl (by omega) (by omega)) ?_
    refine DL.read (i := 2) (by kernel_rfl) (by kernel_rfl) rfl rfl rfl (fun _ h => h) (OpR.load1 rfl (k10.conv (fun _ h => h))) ?_
    refine DL.pure (i := 3) (by kernel_rfl) (by kernel_rfl) rfl rfl rfl (OpP.convI64 rfl (by omega) (by omega)) ?_
    refine DL.pure (i := 4) (by kernel_rfl) (by kernel_rfl) rfl rfl rfl (OpP.mulI rfl rfl (by omega) (by omega)) ?_
    refine DL.pure (i := 5) (by kernel_rfl) (by kernel_rfl) rfl rfl rfl (OpP.move rfl) ?_
    refine DL.pure (i := 6) (by kernel_rfl) (by kernel_rfl) rfl rfl rfl (OpP.indexAddr rfl rfl (by omega) (by omega)) ?_
    refine DL.read (i := 7) (by kernel_rfl) (by kernel_rfl) rfl rfl rfl (fun _ h => h) (OpR.load1 rfl (k11.conv (fun _ h => h))) ?_
    refine DL.pure (i := 8) (by kernel_rfl) (by kernel_rfl) rfl rfl rfl (OpP.convI64 rfl (by omega) (by omega)) ?_
    refine DL.pure (i := 9) (by kernel_rfl) (by kernel_rfl) rfl rfl rfl (OpP.addI rfl rfl (by omega) (by omega)) ?_
    refine DL.pure (i := 10) (by kernel_rfl) (by kernel_rfl) rfl rfl rfl (OpP.assign rfl) ?_
    refine DL.done (by kernel_rfl) ?_
    refine J.seq ?_
    refine J.seq ?_
    refine J.region ?_
    refine JL.pure rfl rfl (OpP.move rfl) ?_
    refine JL.decF rfl rfl (OpP.gtr rfl rfl) (by omega) ?_
    refine JL.pure rfl rfl (OpP.move rfl) ?_
    refine JL.pure rfl rfl (OpP.move rfl) ?_
    refine JL.pure rfl rfl (OpP.addI rfl rfl (by omega) (by omega)) ?_
    refine JL.pure rfl rfl (OpP.move rfl) ?_
    refine JL.dec rfl rfl (OpP.lss rfl rfl) (fun h81 => ?_) (fun h81 => ?_)
    focus
      refine JL.pure rfl rfl (OpP.move rfl) ?_
      refine JL.pure rfl rfl (OpP.move rfl) ?_
      refine JL.decF rfl rfl (OpP.neq rfl rfl) (by omega) ?_
      refine JL.pure rfl rfl (OpP.pickT rfl rfl) ?_
      refine JL.pure rfl rfl (OpP.pickF rfl rfl) ?_
      refine JL.nil ?_
      refine J.condF rfl ?_
      refine J.skip ?_
      refine J.seq ?_
      refine J.region ?_
      refine JL.pure rfl rfl (OpP.move rfl) ?_
      refine JL.pure rfl rfl (OpP.move rfl) ?_
      refine JL.pure rfl rfl (OpP.addI rfl rfl (by omega) (by omega)) ?_
      refine JL.pure rfl rfl (OpP.sliceFTI rfl rfl rfl (by omega) (by omega) (by omega)) ?_
      refine JL.pure rfl rfl (OpP.assign rfl) ?_
      refine JL.nil ?_
      refine J.seq ?_
    rotate_left 1
    focus
      refine JL.pure rfl rfl (OpP.move rfl) ?_
      refine JL.skip rfl rfl ?_
      refine JL.skip rfl rfl ?_
      refine JL.pure rfl rfl (OpP.pickF rfl rfl) ?_
      refine JL.pure rfl rfl (OpP.pickF rfl rfl) ?_
      refine JL.nil ?_
      refine J.condF rfl ?_
      refine J.skip ?_
      refine J.seq ?_
      refine J.region ?_
      refine JL.pure rfl rfl (OpP.move rfl) ?_
      refine JL.pure rfl rfl (OpP.move rfl) ?_
      refine JL.pure rfl rfl (OpP.addI rfl rfl (by omega) (by omega)) ?_
      refine JL.pure rfl rfl (OpP.sliceFTI rfl rfl rfl (by omega) (by omega) (by omega)) ?_
      refine JL.pure rfl rfl (OpP.assign rfl) ?_
      refine JL.nil ?_
      refine J.seq ?_
    rotate_left 1
    all_goals
      rw [show Int.toNat 12 = 12 from rfl, show ((12 + (0 * 256 + (bi.length : Int))).toNat - 12) = bi.length by omega]
      refine J.seq ?_
      refine J.regionD [1] (by kernel_rfl) ?_
      refine DL.pure (i := 0) (by kernel_rfl) (by kernel_rfl) rfl rfl rfl (OpP.move rfl) ?_
      refine DL.read (i := 1) (by kernel_rfl) (by kernel_rfl) rfl rfl rfl (fun _ h => h) (OpR.rdStr (by rfl) (hqr.conv fun _ h => Own.pick (pre := [_]) [] rfl h) (by rfl)) ?_
      refine DL.pure (i := 2) (by kernel_rfl) (by kernel_rfl) rfl rfl rfl (OpP.move rfl) ?_
      refine DL.pure (i := 3) (by kernel_rfl) (by kernel_rfl) rfl rfl rfl (OpP.move rfl) ?_
      refine DL.pure (i := 4) (by kernel_rfl) (by kernel_rfl) rfl rfl rfl (OpP.move rfl) ?_
      refine DL.pure (i := 5) (by kernel_rfl) (by kernel_rfl) rfl rfl rfl (OpP.move rfl) ?_
      refine DL.pure (i := 6) (by kernel_rfl) (by kernel_rfl) rfl rfl rfl (OpP.move rfl) ?_
      refine DL.only (i := 7) (by kernel_rfl) ?_
      refine DL1.stepK rfl rfl rfl (by exact OpW.call (first := []) (captured := []) inferInstance rfl rfl (refPart_u (n := n) (g := g) (p := i) (c := (cut r).length) (bs := bi) hn hg (by omega) (by omega) hbi52 (hmid.conv fun _ h => Own.pick (pre := [_]) [] rfl h))) (by rintro _ _ ⟨a, ⟨k, ⟨rfl, rfl⟩⟩⟩ _ h; exact Own.pick (pre := [_, _]) [1] rfl h) ?_; rintro r98 _ ⟨a, ⟨k, ⟨rfl, rfl⟩⟩⟩
      refine DL.only (i := 8) (by kernel_rfl) ?_
      refine DL1.stepK rfl rfl rfl (OpM.w (OpR.m (OpR.rdStr (by rfl) (RdO.own .head) (by rfl)))) (by rintro _ _ ⟨rfl, rfl⟩ _ h; exact Own.pick (pre := [_, _]) [1] rfl h) ?_; rintro _ _ ⟨rfl, rfl⟩
      refine DL.dec (i := 9) (by kernel_rfl) (by kernel_rfl) rfl rfl rfl (OpP.neStr rfl rfl) (fun h100 => ?_) (fun h100 => ?_)
      focus
        refine DL.done (by kernel_rfl) ?_
        refine J.condT rfl ?_
        refine J.seq ?_
        refine J.region ?_
        refine JL.pure rfl rfl (OpP.assign rfl) ?_
        refine JL.pure rfl rfl (OpP.assign rfl) ?_
        refine JL.pure rfl rfl (OpP.assign rfl) ?_
        refine JL.nil ?_
        refine J.ret3 rfl rfl rfl rfl ?_
      rotate_left 1
      focus
        refine DL.done (by kernel_rfl) ?_
        refine J.condF rfl ?_
        refine J.skip ?_
        refine J.region ?_
        refine JL.pure rfl rfl (OpP.move rfl) ?_
        refine JL.pure rfl rfl (OpP.move rfl) ?_
        refine JL.f1 ?_; refine JL.mem rfl rfl (OpM.appendH rfl (.inl ⟨_, Sl.und inferInstance⟩) (by rfl) rfl rfl (RdO.src (hmid.conv fun _ h => Own.pick (pre := [_, _]) [] rfl h) (by first | assumption | exact fc_length _ _ | (simp; done) | (simp; omega))) (by first | exact bcells_one _ | exact scells_one _ | exact icells_one _ | assumption | exact fc_one fun _ => rfl) (by simp only [maxLen]; omega) (by omega)) ?_; rintro _ _ ⟨⟨a103, c103, rfl⟩, rfl⟩
        refine JL.pure rfl rfl (OpP.assign rfl) ?_
        refine JL.nil ?_
        refine J.inBlock ?_
        refine J.region ?_
        refine JL.pure rfl rfl (OpP.move rfl) ?_
        refine JL.pure rfl rfl (OpP.addI rfl rfl (by omega) (by omega)) ?_
        refine JL.pure rfl rfl (OpP.assign rfl) ?_
        refine JL.nil ?_
      rotate_left 1
      · exact absurd rfl (by assumption)
      refine back (i + 1, a103, c103) (by dsimp only; omega) (by dsimp only; omega) (by dsimp only; rw [htk, List.length_append]; exact (by repeat (first | exact SubEnv.nil | refine SubEnv.cons (by first | rfl | exact congrArg (fun z => some (Value.int .i64 z)) (by omega) | (simp; done)) ?_))) (fun _ h => ?_)
      dsimp only
      rw [htk, List.length_append, bcells_append]
      exact Own.pick (pre := [_, _]) [0] rfl h
  · have : i = (cut r).length := by omega
    subst this
    rw [List.take_length, cut_join _ r (Nat.le_refl _)]
    refine J.seq ?_
    refine J.seq ?_
    refine J.region ?_
    refine JL.pure rfl rfl (OpP.move rfl) ?_
    refine JL.pure rfl rfl (OpP.move rfl) ?_
    refine JL.decF rfl rfl (OpP.lss rfl rfl) (by omega) ?_
    refine JL.nil ?_
    refine J.condF rfl ?_
    refine J.exit rfl ?_
    refine J.seq ?_
    refine J.region ?_
    refine JL.pure rfl rfl (OpP.move rfl) ?_
    refine JL.pure rfl rfl (OpP.move rfl) ?_
    refine JL.pure rfl rfl (OpP.move rfl) ?_
    refine JL.pure rfl rfl (OpP.assign rfl) ?_
    refine JL.pure rfl rfl (OpP.assign rfl) ?_
    refine JL.pure rfl rfl (OpP.assign rfl) ?_
    refine JL.nil ?_
    refine J.ret3 rfl rfl rfl rfl ?_
    exact ⟨_, ⟨_, _, rfl, rfl⟩, fun _ h => h⟩
end Go.Proofs.F
