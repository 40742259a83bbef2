/-
  The checker's Tree: a path of its own is handed back.
-/
import Derived.Test.YtcinkbieboiffaaGreatCKB
set_option linter.unusedVariables false
set_option linter.unusedSimpArgs false
set_option linter.unnecessarySimpa false
namespace Go.PI.Tryz
open Go.Proofs Go.PI
set_option maxHeartbeats 0
def visV1 (q : QryL) : PV := .func (.func 47) [] [.ptr 5 0 0, .cptr (encQry q) 0, .ptr 6 0 0]
abbrev visH1 (a b : Nat) (S : ScpL) : List (Nat × Blk) := [(5, ⟨[scpV a b S], 12, true⟩), (6, ⟨[visV1 S.q], 1, false⟩), (a, ⟨S.path.map encDec, 5, true⟩), (b, ⟨S.lems.map encLem, 6, true⟩)]
def visR1 (r : Nat) : Nat := if r = 0 then 5 else if r = 1 then 6 else if r = 2 then 9 else 10
def visS1 (nx M r : Nat) : Nat := if r = 5 then 0 else if r = 6 then 1 else if r = nx then 4 else if r = nx + 1 then 5 else M + r
theorem rn_vis3 {ρ : Nat → Nat} {k : Nat} {q : QryL} (h0 : ρ 0 = 5) (h1 : ρ 1 = 6) (hk : 2 ≤ k) : rn ρ k 3 (visV q) (visV1 q) := ⟨rfl, trivial, ⟨by omega, by rw [h0]⟩, rfl, ⟨by omega, by rw [h1]⟩, trivial⟩
theorem rn_vis4 {ρ : Nat → Nat} {k : Nat} {q : QryL} (h0 : ρ 5 = 0) (h1 : ρ 6 = 1) (hk : 7 ≤ k) : rn ρ k 3 (visV1 q) (visV q) := ⟨rfl, trivial, ⟨by omega, by rw [h0]⟩, rfl, ⟨by omega, by rw [h1]⟩, trivial⟩
theorem rn_vis5 {ρ : Nat → Nat} {k a b : Nat} {q : QryL} (h0 : a = ρ 5) (h1 : b = ρ 6) (hk : 7 ≤ k := by decide) : rn ρ k 3 (visV1 q) (.func (.func 47) [] [.ptr a 0 0, .cptr (encQry q) 0, .ptr b 0 0]) := by
 subst h0 h1;exact ⟨rfl, trivial, ⟨by omega, rfl⟩, rfl, ⟨by omega, rfl⟩, trivial⟩
theorem vis_call1 {S : ScpL} {n : NodeL} {K : PV → St → Prop} {t : Tm} {h : Hp} {z : Fz} {nx : Nat} {X : PV} (hF : ∀ t, FnH Tryz.prog G0 47 [nodeV n, .ptr 0 0 0, .cptr (encQry S.q) 0, .ptr 1 0 0] (visK S n) ⟨t, hv (visH 2 3 S), zv [], 4⟩) (hh : h = hv ((0, ⟨[X], 20, true⟩) :: visH1 9 10 S)) (hz0 : z = zv [0]) (hnx : 11 ≤ nx)
 (hK : ∀ (bv : Bool) S', S'.q = S.q → ((bv = true ∧ belowO S n = none ∧ S' = S) ∨ (bv = false ∧ belowO S n = some S'.path)) → K (.bool bv) ⟨fun _ => .any, hv (visH1 nx (nx + 1) S'), zv [], nx + 2⟩) : FnH Tryz.prog G0 47 [nodeV n, .ptr 5 0 0, .cptr (encQry S.q) 0, .ptr 6 0 0] K ⟨t, h, z, nx⟩ := by
 subst hh hz0;have hF := hF t;rw [zH4, zv_eq] at hF;have g0 : hv ((0, ⟨[X], 20, true⟩) :: visH1 9 10 S) 0 = some ⟨[X], 20, true⟩ := by rw [zH4]; rfl
 have g5 : hv ((0, ⟨[X], 20, true⟩) :: visH1 9 10 S) 5 = some ⟨[scpV 9 10 S], 12, true⟩ := by rw [zH4]; rfl
 have g6 : hv ((0, ⟨[X], 20, true⟩) :: visH1 9 10 S) 6 = some ⟨[visV1 S.q], 1, false⟩ := by rw [zH4]; rfl
 have g9 : hv ((0, ⟨[X], 20, true⟩) :: visH1 9 10 S) 9 = some ⟨S.path.map encDec, 5, true⟩ := by rw [zH4]; rfl
 have g10 : hv ((0, ⟨[X], 20, true⟩) :: visH1 9 10 S) 10 = some ⟨S.lems.map encLem, 6, true⟩ := by rw [zH4]; rfl
 refine fnH_re visR1 hF rfl (fun i d' hd => ?_) (zJ2 (zFK ?_)) (by simp) ?_ ⟨_, g0, fun i e => by have := congrArg Blk.agg e; cases this⟩ fun pv s' hk => ?_
 ·match i, hd with
  | 0, hd => cases hd; exact ⟨_, rfl, rfl, rfl, rfl, rfl, rfl, rfl, rfl, rfl, rfl, trivial⟩
  | 1, hd => cases hd; exact ⟨_, rfl, by decide, rfl⟩
  | 2, hd => cases hd; exact ⟨_, rfl, rfl⟩
  | 3, hd => cases hd; exact ⟨_, rfl, by decide, rfl⟩
  | i + 4, hd => simp at hd
 ·exact ⟨zAQ (by decide) g5 (zDQ (by decide) (by decide) rfl rfl) rfl rfl, zAQ (by decide) g6 (rn_vis3 rfl rfl (by decide)) rfl rfl, zAG (by decide) g9 rfl (zAM fun _ => ⟨rfl, by simp [encDec]⟩) rfl, zAG (by decide) g10 rfl (zAM fun _ => ⟨rfl, by simp [encLem]⟩) rfl, trivial⟩
 ·intro p hp q hq
  simp only [visH, List.mem_cons, List.not_mem_nil, or_false] at hp hq;rcases hp with rfl | rfl | rfl | rfl <;> rcases hq with rfl | rfl | rfl | rfl <;> simp [visR1]
 ·obtain ⟨S', hq, hb, h1, h2, h3⟩ := hk
  obtain ⟨k0, k1, k4, k5⟩ := hv_key 4 5 S' (by decide) (by decide);obtain ⟨bv, hbv⟩ : ∃ bv : Bool, pv = .bool bv := by rcases hb with ⟨e, _⟩ | ⟨e, _⟩ <;> exact ⟨_, e⟩
  subst hbv;have hKK := hK bv S' hq (by simpa using hb);refine ⟨bv, visH1 nx (nx + 1) S', [], nx + 2, visS1 nx s'.nx, rfl, by omega, fun r hr => ?_, zJ2 (zFK ?_), by simp, ?_, by rw [← zH4, ← zv_eq]; exact hKK⟩
  ·by_cases h5 : r = 5
   ·subst h5; left; exact ⟨by show 0 < 4; omega, rfl⟩
   ·by_cases h6 : r = 6
    ·subst h6; left; exact ⟨by show 1 < 4; omega, rfl⟩
    ·right
     unfold visS1;rw [if_neg h5, if_neg h6, if_neg (by omega), if_neg (by omega)]; omega
  ·rw [h1, h2]
   have e4 : visS1 nx s'.nx nx = 4 := by unfold visS1; rw [if_neg (by omega), if_neg (by omega), if_pos rfl]
   have e5 : visS1 nx s'.nx (nx + 1) = 5 := by unfold visS1; rw [if_neg (by omega), if_neg (by omega), if_neg (by omega), if_pos rfl]
   exact ⟨zAQ (by omega) k0 (zDQ (by omega) (by omega) e4.symm e5.symm) rfl rfl, zAQ (by omega) k1 (rn_vis4 rfl rfl (by omega)) rfl rfl, zAG (by omega) (by rw [e4]; exact k4) rfl (zAM fun _ => ⟨rfl, by simp [encDec]⟩) rfl, zAG (by omega) (by rw [e5]; exact k5) rfl (zAM fun _ => ⟨rfl, by simp [encLem]⟩) rfl, trivial⟩
  ·intro p hp q hq
   simp only [visH1, List.mem_cons, List.not_mem_nil, or_false] at hp hq;rcases hp with rfl | rfl | rfl | rfl <;> rcases hq with rfl | rfl | rfl | rfl <;> intro hne <;> simp only [visS1] at hne ⊢ <;> (try exact absurd rfl hne) <;> (repeat' split) <;> omega
def treeK (p : List DecL) (pv : PV) (s' : St) : Prop := pv = .tup [.own 5 0 p.length, .int .i64 12] ∧ s'.h = hv [(5, ⟨p.map encDec, 5, true⟩)] ∧ s'.z = zv [] ∧ 6 ≤ s'.nx
theorem ok_ktreeO : FO 13 Tryz.f13 [.tmp 4, .tmp 5] 52 := mkO Tryz.func13 Tryz.ntmps13 Tryz.results13
theorem h_ktreeO (q : QryL) (n : NodeL) (P V v : Nat) (hvV : v ≤ V) (hq : szQ q P) (hs : n.Sm) (hc : n.cnt ≤ 4194304) (hz : NodeZ P V v 1048576 n) (hB : P + 2 * V + 20 ≤ 100000000) (t : Tm) (p : List DecL) (hp : treeR q n = (p, 12)) (X : PV) (hX : nr 3 X = true ∧ X.storable = true) : FnH Tryz.prog G0 13 [encQry q, nodeV n] (treeK p) ⟨t, hv [(0, ⟨[X], 20, true⟩)], zv [0], 5⟩ := by
 obtain ⟨k, k1, k2, cshp⟩ := c_kshp _ n 2048 65536 (Nat.lt_succ_self _) hs hc (by decide) (by decide);have cva := c_gvars q.g ⟨⟨hq.g.1.1, fun f hf => zBM (by omega) (hq.g.1.2 f hf)⟩, ⟨hq.g.2.1, fun f hf => zBM (by omega) (hq.g.2.2 f hf)⟩⟩;have crg := c_rgvalid q.r q.g.ins ⟨zDR (by omega) hq.r.1, zDR (by omega) hq.r.2.1, fun f hf => zBM (by omega) (hq.r.2.2.1 f hf), hq.r.2.2.2⟩;have clv := zJJ q.goal (nVars q.g) (zBM (by omega) hq.goal);have ev : (formOk 2048 n && decide (n.cnt ≤ 65536)) = n.valid := rfl;rw [ev] at cshp k2
 have good : n.valid = true ∧ VaQ q := by
  refine Classical.byContradiction fun h => ?_
  unfold treeR at hp;rw [if_neg h] at hp;cases hp
 obtain ⟨hval, hVa⟩ := good;obtain ⟨hnv, hrg, hlv⟩ := VaQ_split.1 hVa;rw [dB_true.2 hrg] at crg;rw [hlv] at clv;rw [hval] at cshp;refine fnH_v hmix hT ok_ktreeO (by simp [encQry]) ?_;refine sus ?_;refine tellV [] [(2, .cptr (encQry q) 0), (3, .cptr (nodeV n) 0)] [(0, ⟨[X], 20, true⟩)] [0] 5 (by decide) (by simp) trivial ?_ ?_
 ·exact ⟨[], [5, 6], [(2, .cptr (encQry q) 0), (3, .cptr (nodeV n) 0)], [], ⟨⟨⟨_, rfl⟩, ⟨_, rfl⟩, trivial⟩, ⟨⟨6, [5], zH5 rfl rfl, rfl⟩, ⟨6, [6], zH5 rfl rfl, rfl⟩, trivial⟩, trivial⟩, ⟨zBH rfl, zBH rfl, trivial⟩, ⟨zKJ (by decide) rfl rfl hX.1 hX.2 rfl, trivial⟩, by simp [ren]⟩
 refine sus ?_;refine zAA cva rfl ?_;refine sus ?_
 (refine zA1 ?_; refine sus ?_)
 refine zAA cshp rfl ?_;refine sus ?_;refine zA1 ?_; (repeat' (first|refine stu ?_|with_reducible(refine brr ?_ ?_<;>intro h)));all_goals try(conv=>whnf)
 all_goals try (exfalso; omega)
 refine zAA crg rfl ?_;refine sus ?_;refine zAA clv rfl ?_;refine sus ?_
 (refine zA1 ?_; refine sus ?_)
 (refine zA1 ?_; refine sus ?_)
 (refine zA1 ?_; refine sus ?_)
 (refine zA1 ?_; refine sus ?_)
 refine tellV [(.cl 40 0 10, 5, true), (.cl 40 0 11, 6, true)] [(3, .cptr (nodeV n) 0), (9, .ptr 5 0 0), (10, .ptr 6 0 0)] ((0, ⟨[X], 20, true⟩) :: visH1 9 10 ⟨q, [], []⟩) [0] 11 (by decide) (by simp) ⟨_, _, rfl, rfl, rfl, _, _, rfl, rfl, rfl, trivial⟩ ?_ ?_
 ·refine ⟨[40, 42, 0, 0, 45, 46], [], [], [], ttt, ⟨zBH rfl, apx, apx, trivial⟩, ?_, by simp [ren]⟩
  exact ⟨zKJ (by decide) rfl rfl hX.1 hX.2 rfl, zAQ (by decide) rfl (zDQ (by decide) (by decide) rfl rfl) rfl rfl, zAQ (by decide) rfl (rn_vis5 rfl rfl) rfl rfl, zAG (by decide) rfl rfl (zAM fun _ => ⟨rfl, by simp [encDec]⟩) rfl, zAG (by decide) rfl rfl (zAM fun _ => ⟨rfl, by simp [encLem]⟩) rfl, trivial⟩
 have hS : okScp ⟨q, [], []⟩ := ⟨hVa, fun d hd => by cases hd⟩
 have hsz : szT ⟨q, [], []⟩ P V v 1048576 2048 := by
  refine ⟨hq.P1, hq.g.1.2, hq.r.1, hq.r.2.1, ⟨hq.r.2.2.2, hq.r.2.2.1⟩, hq.goal, (by show 0 + 2048 ≤ 1048576; omega), (fun d hd => by cases hd), (fun d hd => by cases hd), (fun d hd => by cases hd), ⟨hvV, fun m hm => by cases hm⟩, (by show 0 + 1048576 ≤ 1048576; omega), hB, ?_⟩;have h1 := hVa.1.1;have h2 := hVa.1.2.1;show q.g.ins + q.g.units.length ≤ 1280
  omega
 have hfo : formOk 2048 n = true := by unfold NodeL.valid at hval; simp only [Bool.and_eq_true] at hval; exact hval.1
 have hvis := fun t => h_vis _ n ⟨q, [], []⟩ P V v 1048576 2048 t (Nat.lt_succ_self _) hs hfo hS hsz hz
 have hres : treeR q n = (match belowO ⟨q, [], []⟩ n with
  | none => ([], 0)
  | some p => (p, 12)) := if_pos ⟨hval, hVa⟩
 refine sus ?_;refine zD1 (vis_call1 (X := X) hvis rfl rfl (by decide) fun bv S' hq' hbv => ?_)
 have hpl : S'.path.length ≤ 2048 := by
  rcases hbv with ⟨_, _, e⟩ | ⟨_, e⟩
  ·rw [e]; exact Nat.zero_le _
  ·have := zM8 _ n ⟨q, [], []⟩ 2048 _ (Nat.lt_succ_self _) hfo e
   simpa using this
 refine sus ?_;refine zA1 ?_; (repeat' (first|refine stu ?_|with_reducible(refine brr ?_ ?_<;>intro h)));all_goals try(conv=>whnf)
 ·exfalso
  have hb0 : belowO ⟨q, [], []⟩ n = none := by
   rcases hbv with ⟨_, e, _⟩ | ⟨e, _⟩
   ·exact e
   ·exact absurd e (by rw [show bv = true by assumption]; decide)
  rw [hres, hb0] at hp;cases hp
 have hb0 : belowO ⟨q, [], []⟩ n = some S'.path := by
  rcases hbv with ⟨e, _⟩ | ⟨_, e⟩
  ·exact absurd e (by rw [show bv = false by assumption]; decide)
  ·exact e
 have ep : p = S'.path := by
  rw [hres, hb0] at hp; cases hp; rfl
 subst ep;refine tellV [] [(4, .own 5 0 S'.path.length), (5, .int .i64 12)] [(5, ⟨S'.path.map encDec, 5, true⟩)] [] 6 (by decide) (by simp) trivial ⟨[19], [], [], [], ttt, ⟨zAY (by decide) rfl (by simp), zAC rfl rfl, trivial⟩, ⟨zAG (by decide) rfl (by show List.take S'.path.length (List.map encDec S'.path) = _; rw [List.take_of_length_le (by simp)]) (zAM fun _ => ⟨rfl, by simp [encDec]⟩) rfl, trivial⟩, by simp [ren]⟩ ?_;refine sus ?_;exact ⟨rfl, rfl, rfl, Nat.le_refl 6⟩
theorem tree_inl {args : List PV} {K : PV → St → Prop} {t : Tm} {h : Hp} {z : Fz} {nx : Nat} {p : List DecL} {X : PV} (hF : ∀ t, FnH Tryz.prog G0 13 args (treeK p) ⟨t, hv [(0, ⟨[X], 20, true⟩)], zv [0], 5⟩) (hh : h = hv [(0, ⟨[X], 20, true⟩)]) (hz : z = zv [0]) (hn : nx = 5)
 (hK : ∀ t k, 6 ≤ k → K (.tup [.own 5 0 p.length, .int .i64 12]) ⟨t, hv [(5, ⟨p.map encDec, 5, true⟩)], zv [], k⟩) : FnH Tryz.prog G0 13 args K ⟨t, h, z, nx⟩ := by
 subst hh hz hn;refine FnH.mono _ _ _ _ _ (fun v s' hk => ?_) (hF t);obtain ⟨t', h', z', k'⟩ := s';obtain ⟨e1, e2, e3, e4⟩ := hk;dsimp only at e2 e3 e4;subst e1 e2 e3;exact hK t' k' e4
end Go.PI.Tryz
