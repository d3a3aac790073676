/- BuildNames: what its functions answer. -/
import Derived.Test.YtdehdahimkcakaaGreatDoorLBn
import Derived.Test.YtdehdahimkcakaaGreatDoorStep
import Derived.Test.YtdehdahimkcakaaGreatDoorRun
import Derived.IntWalk
set_option linter.unusedVariables false
set_option linter.unusedSimpArgs false
set_option maxRecDepth 100000
namespace Go.Proofs.YtdehdahimkcakaaGreatDoor
open Go Ai

theorem bn_bool (a b : Bool) : bn .eql 4 (.bool a) (.bool b) = some (.bool (a == b)) := by kernel_rfl
theorem len_str (x : List UInt8) (id : Nat) (s : St) : bt .len #[9] [.str x] id s = some (.int .i64 x.length, s) := by kernel_rfl
theorem slc_str (x : List UInt8) (h : Int) (s : St) : slc 9 (.str x) none (some (.int .i64 h)) none s = (bounds x.length x.length none (some (.int .i64 h)) none).map fun r => .str ((x.drop r.1).take (r.2.1 - r.1)) := by kernel_rfl
theorem bounds_hi (n h : Nat) : bounds n n none (some (.int .i64 (h : Int))) none = if h ≤ n then some (0, h, n) else none := by
  simp [bounds, optI, asI]
def pre (p x : List UInt8) : Bool := decide (p.length ≤ x.length) && (x.take p.length == p)
theorem c123 (x p : List UInt8) : PureC Tryz.env 123 [.str x, .str p] (.bool (pre p x)) := by
  refine pure_closed rfl (f123_run _ _ _ ?_)
  unfold f123
  simp only [len_str, Bnd_some, bin_geq, wantV_bool, Gd_some, pickV_bool]
  by_cases h : p.length ≤ x.length
  · simp [h, Gd_some, slc_str, bounds_hi, Bnd_some, bin_seql, pre]
  · have h' : ¬ ((p.length : Int) ≤ (x.length : Int)) := by omega
    simp [h, h', pre]
theorem c72 (x p : List UInt8) : PureC Tryz.env 72 [.str x, .str p] (.bool (pre p x)) := by
  refine pure_closed rfl (f72_run _ _ _ ?_)
  exact callPu (c123 x p) (by simp [AV.closed]) rfl

/-- The first row whose text it is. -/
def hit : List (List UInt8 × Int) → List UInt8 → Option Int
  | [], _ => none
  | (p, v) :: l, x => if (x == p) = true then some v else hit l x
def HitP : List (List UInt8 × Int) → List UInt8 → (Int → Prop) → Prop → Prop
  | [], _, _, d => d
  | (p, v) :: l, x, c, d => if (x == p) = true then c v else HitP l x c d
theorem hitP {l : List (List UInt8 × Int)} {x : List UInt8} {c : Int → Prop} {d : Prop} (h1 : ∀ v, hit l x = some v → c v) (h2 : hit l x = none → d) : HitP l x c d := by
  induction l with
  | nil => exact h2 rfl
  | cons p l ih =>
    obtain ⟨p, v⟩ := p
    simp only [HitP]
    by_cases h : (x == p) = true
    · rw [if_pos h]; exact h1 v (by simp only [hit, if_pos h])
    · rw [if_neg h]; exact ih (fun v hv => h1 v (by simp only [hit, if_neg h]; exact hv)) (fun hv => h2 (by simp only [hit, if_neg h]; exact hv))
def txL : List (List UInt8 × Int) := [([115, 116, 114, 46, 43, 43], 22), ([115, 116, 114, 46, 108, 101, 110], 23), ([115, 116, 114, 46, 97, 116], 24), ([115, 116, 114, 46, 115, 117, 98, 115, 116, 114], 25), ([115, 116, 114, 46, 112, 114, 101, 102, 105, 120, 111, 102], 26), ([115, 116, 114, 46, 115, 117, 102, 102, 105, 120, 111, 102], 27), ([115, 116, 114, 46, 99, 111, 110, 116, 97, 105, 110, 115], 28), ([115, 116, 114, 46, 105, 110, 100, 101, 120, 111, 102], 29), ([115, 116, 114, 46, 114, 101, 112, 108, 97, 99, 101], 30)]
def opL : List (List UInt8 × Int) := [([110, 111, 116], 6), ([97, 110, 100], 7), ([111, 114], 8), ([61, 62], 9), ([120, 111, 114], 10), ([61], 11), ([100, 105, 115, 116, 105, 110, 99, 116], 12), ([105, 116, 101], 13), ([43], 15), ([45], 16), ([42], 17), ([60, 61], 18), ([60], 19), ([62, 61], 20), ([62], 21)]
def resL : List (List UInt8) := [[116, 114, 117, 101], [102, 97, 108, 115, 101], [108, 101, 116], [102, 111, 114, 97, 108, 108], [101, 120, 105, 115, 116, 115], [109, 97, 116, 99, 104], [112, 97, 114], [33], [95], [97, 115], [100, 105, 118], [109, 111, 100], [97, 98, 115]]
theorem c122 (x : List UInt8) : PureC Tryz.env 122 [.str x] (.int .i64 ((hit txL x).getD 0)) := by
  refine pure_closed rfl (f122_run _ _ ?_)
  unfold f122 f122j1
  simp only [Bnd_some, bin_seql, IfP_bool]
  exact hitP (l := txL) (c := fun v => AV.int .i64 v = .int .i64 ((hit txL x).getD 0)) (fun v h => by rw [h]; rfl) (fun h => by rw [h]; rfl)
/-- An operation's number, of a name with two parts. -/
def opN (x : List UInt8) : Int := (hit opL x).getD ((hit txL x).getD 0)
theorem c71 (x : List UInt8) : PureC Tryz.env 71 [.str x, .int .i64 2] (.int .i64 (opN x)) := by
  refine pure_closed rfl (f71_run _ _ _ ?_)
  unfold f71
  simp only [Bnd_some, bin_seql, bin_eql, IfP_bool]
  refine hitP (l := opL) (c := fun v => AV.int .i64 v = .int .i64 (opN x)) (d := f71j1 (fun r s' => r = .int .i64 (opN x)) (.str x) _) (fun v h => by simp only [opN, h]; rfl) (fun h => ?_)
  exact callPu (c122 x) (by simp [AV.closed]) (by simp only [opN, h]; rfl)
theorem dupIf {c a b d : Prop} [Decidable c] : (if c then (if c then a else b) else d) = (if c then a else d) := by by_cases h : c <;> simp [h]
def resN : List (List UInt8 × Int) := resL.map fun p => (p, 1)
theorem c24 (x : List UInt8) : PureC Tryz.env 24 [.str x] (.bool ((hit resN x).isSome || (opN x != 0) || pre [115, 116, 114, 46] x || pre [114, 101, 46] x)) := by
  refine pure_closed rfl (f24_run _ _ ?_)
  have key : ∀ (s : St) (Q : AV → St → Prop), (∀ s', Q (.bool ((opN x != 0) || pre [115, 116, 114, 46] x || pre [114, 101, 46] x)) s') → f24j1 Q (.str x) s := by
    intro s Q hQ
    unfold f24j1
    refine callPu (c71 x) (by simp [AV.closed]) ?_
    simp only [Bnd_some, bin_neq, wantV_bool, Gd_some, pickV_bool]
    cases h1 : (opN x != 0) with
    | true => simp [Gd_some, Bnd_some, wantV_bool, pickV_bool, h1] at hQ ⊢; exact hQ _
    | false =>
      simp only [beq_self_eq_true, if_true]
      refine callPu (c72 x _) (by simp [AV.closed]) ?_
      cases h2 : pre [115, 116, 114, 46] x with
      | true => simp [Gd_some, Bnd_some, pickV_bool, wantV_bool, h1, h2] at hQ ⊢; exact hQ _
      | false =>
        simp only [Bnd_some, pickV_bool, wantV_bool, Gd_some, cond_false, beq_self_eq_true, if_true]
        refine callPu (c72 x _) (by simp [AV.closed]) ?_
        simp [Bnd_some, pickV_bool, h1, h2] at hQ ⊢; exact hQ _
  unfold f24 f24j2
  simp only [Bnd_some, bin_seql, IfP_bool]
  simp only [dupIf]
  refine hitP (l := resN) (c := fun _ => AV.bool true = .bool ((hit resN x).isSome || (opN x != 0) || pre [115, 116, 114, 46] x || pre [114, 101, 46] x)) (d := f24j1 _ (.str x) _) (fun v h => by simp [h]) (fun h => ?_)
  exact key _ _ fun s' => by simp [h]

/-! ### The document's -/
def strs (L : List (List UInt8)) : AV := .sl true (L.map .str)
def opR : List (List UInt8) := [[110, 111, 116], [97, 110, 100], [111, 114], [61, 62], [120, 111, 114], [61], [100, 105, 115, 116, 105, 110, 99, 116], [105, 116, 101], [], [43], [45], [42], [60, 61], [60], [62, 61], [62], [115, 116, 114, 46, 43, 43], [115, 116, 114, 46, 108, 101, 110], [115, 116, 114, 46, 97, 116], [115, 116, 114, 46, 115, 117, 98, 115, 116, 114], [115, 116, 114, 46, 112, 114, 101, 102, 105, 120, 111, 102], [115, 116, 114, 46, 115, 117, 102, 102, 105, 120, 111, 102], [115, 116, 114, 46, 99, 111, 110, 116, 97, 105, 110, 115], [115, 116, 114, 46, 105, 110, 100, 101, 120, 111, 102], [115, 116, 114, 46, 114, 101, 112, 108, 97, 99, 101]]
def resR : List (List UInt8) := [[116, 114, 117, 101], [102, 97, 108, 115, 101], [108, 101, 116], [102, 111, 114, 97, 108, 108], [101, 120, 105, 115, 116, 115], [109, 97, 116, 99, 104], [112, 97, 114], [33], [95], [97, 115], [100, 105, 118], [109, 111, 100], [97, 98, 115]]
def sortR : List (List UInt8) := [[66, 111, 111, 108], [73, 110, 116], [83, 116, 114, 105, 110, 103]]
theorem len_sl (ex : Bool) (l : List AV) (id : Nat) (s : St) : bt .len #[52] [.sl ex l] id s = some (.int .i64 l.length, s) := by kernel_rfl
theorem ix_strs (L : List (List UInt8)) (i : Nat) (h : i < L.length) : ixS 1 (strs L) (.int .i64 (i : Int)) = some (.pel [.str L[i]] 0) := by
  simp [ixS, strs, asI, idx, h, AV.cells]
theorem ix_strs2 (L : List (List UInt8)) (i : Nat) (y : List UInt8) (h : L[i]? = some y) : ixS 1 (strs L) (.int .i64 (i : Int)) = some (.pel [.str y] 0) := by
  obtain ⟨h', e⟩ := List.getElem?_eq_some_iff.1 h
  rw [ix_strs L i h', e]
theorem drop_get (L : List (List UInt8)) (i : Nat) (y : List UInt8) (h : L[i]? = some y) : L.drop i = y :: L.drop (i + 1) := by
  obtain ⟨h', e⟩ := List.getElem?_eq_some_iff.1 h
  rw [← e]; exact List.drop_eq_getElem_cons h'
theorem wrap_nat (i : Nat) (h : i ≤ 1000) : IntKind.i64.wrap ((i : Int) + 1) = ((i + 1 : Nat) : Int) := by
  rw [IntWalk.i64_in _ (by omega)]; rfl
theorem ld_one (v : AV) (s : St) : ld 1 false (.pel [v] 0) s = some v := rfl
/-- The place of a text. -/
def place (x : List UInt8) : List (List UInt8) → Nat → Option Nat
  | [], _ => none
  | p :: l, i => if (p == x) = true then some i else place x l (i + 1)
theorem l23 (x : List UInt8) (hx : (x == []) = false) (L : List (List UInt8)) (hL : L.length ≤ 900) (Q : AV → St → Prop) (r : Int) (hQ : ∀ s, Q (.int .i64 r) s) : ∀ (m i : Nat) (s : St), i + m = L.length → r = ((place x (L.drop i) i).map fun j => (6 : Int) + j).getD 0 → ∃ n, f23l1 Q n (.str x) (strs L) (.int .i64 i) s := by
  intro m
  induction m with
  | zero =>
    intro i s hi hr
    refine ⟨1, ?_⟩
    show f23l1s Q (f23l1 Q 0) _ _ _ s
    unfold f23l1s f23j1
    have h0 : r = 0 := by rw [hr, List.drop_eq_nil_of_le (by omega)]; rfl
    simp [strs, len_sl, Bnd_some, bin_lss, IfP_bool, show ¬ (i < L.length) by omega]
    rw [← h0]; exact hQ _
  | succ m ih =>
    intro i s hi hr
    have hlt : i < L.length := by omega
    have hd : L.drop i = L[i] :: L.drop (i + 1) := List.drop_eq_getElem_cons hlt
    rw [hd, place] at hr
    have hlen : ∀ id st, bt .len #[52] [strs L] id st = some (.int .i64 L.length, st) := fun id st => by rw [strs, len_sl, List.length_map]
    by_cases hp : (L[i] == x) = true
    · rw [if_pos hp] at hr
      refine ⟨1, ?_⟩
      show f23l1s Q (f23l1 Q 0) _ _ _ s
      unfold f23l1s
      simp only [hlen, Bnd_some, bin_lss, IfP_bool, ix_strs L i hlt, ld_one, bin_seql, hp, wantV_bool, Gd_some, bin_sneq, hx, pickV_bool, bin_add]
      simp only [Int.ofNat_lt, hlt, decide_true, if_true, beq_self_eq_true, Gd_some, wantV_bool, Bnd_some, pickV_bool, Bool.not_false, cond_true, IfP_bool]
      rw [IntWalk.i64_in _ (by omega)]
      have : r = 6 + (i : Int) := by rw [hr]; rfl
      rw [← this]; exact hQ _
    · rw [if_neg hp] at hr
      have hp' : (L[i] == x) = false := by simpa using hp
      obtain ⟨n, hn⟩ := ih (i + 1) _ (by omega) hr
      refine ⟨n + 1, ?_⟩
      show f23l1s Q (f23l1 Q n) _ _ _ s
      unfold f23l1s f23j2
      simp only [hlen, Bnd_some, bin_lss, IfP_bool, ix_strs L i hlt, ld_one, bin_seql, hp', wantV_bool, Gd_some, pickV_bool, bin_add]
      simp only [Int.ofNat_lt, hlt, decide_true, if_true, Bool.false_eq_true, if_false, Gd_some, wantV_bool, Bnd_some, pickV_bool, cond_false, IfP_bool, bin_add, show (false == true) = false from rfl]
      rw [wrap_nat i (by omega)]
      exact hn
theorem bsl_op : bsl 52 25 [(0, (.str [110, 111, 116])), (1, (.str [97, 110, 100])), (2, (.str [111, 114])), (3, (.str [61, 62])), (4, (.str [120, 111, 114])), (5, (.str [61])), (6, (.str [100, 105, 115, 116, 105, 110, 99, 116])), (7, (.str [105, 116, 101])), (8, (.str [])), (9, (.str [43])), (10, (.str [45])), (11, (.str [42])), (12, (.str [60, 61])), (13, (.str [60])), (14, (.str [62, 61])), (15, (.str [62])), (16, (.str [115, 116, 114, 46, 43, 43])), (17, (.str [115, 116, 114, 46, 108, 101, 110])), (18, (.str [115, 116, 114, 46, 97, 116])), (19, (.str [115, 116, 114, 46, 115, 117, 98, 115, 116, 114])), (20, (.str [115, 116, 114, 46, 112, 114, 101, 102, 105, 120, 111, 102])), (21, (.str [115, 116, 114, 46, 115, 117, 102, 102, 105, 120, 111, 102])), (22, (.str [115, 116, 114, 46, 99, 111, 110, 116, 97, 105, 110, 115])), (23, (.str [115, 116, 114, 46, 105, 110, 100, 101, 120, 111, 102])), (24, (.str [115, 116, 114, 46, 114, 101, 112, 108, 97, 99, 101]))] = some (strs opR) := by kernel_rfl
/-- The document's operation of a name with two parts. -/
def opM (x : List UInt8) : Int := cond (x == []) 0 (((place x opR 0).map fun j => (6 : Int) + j).getD 0)

theorem run23 : ((callF Tryz.env 100 23 [.str [], .int .i64 2] St.empty).map Prod.fst) = some (.int .i64 0) := by kernel_rfl
theorem c23 (x : List UInt8) : PureC Tryz.env 23 [.str x, .int .i64 2] (.int .i64 (opM x)) := by
  cases hx : (x == []) with
  | true =>
    have : x = [] := by simpa using hx
    subst this
    exact pure_run rfl run23
  | false =>
    have hr : opM x = ((place x opR 0).map fun j => (6 : Int) + j).getD 0 := by unfold opM; rw [hx]; rfl
    refine pure_closed rfl (f23_run _ _ _ ?_)
    unfold f23
    simp only [Bnd_some, bin_seql, wantV_bool, Gd_some]
    have key : ∀ s : St, ∃ n, f23l1 (fun r s' => r = .int .i64 (opM x)) n (.str x) (strs opR) (.int .i64 (0 : Nat)) s := fun s =>
      l23 x hx opR (by decide) _ (opM x) (fun _ => rfl) opR.length 0 s (by simp) (by rw [hr]; rfl)
    cases h45 : (x == [45]) with
    | true =>
      simp only [beq_self_eq_true, if_true, Bnd_some, bin_eql, Gd_some, pickV_bool, wantV_bool, cond_true, IfP_bool, bsl_op]
      exact key _
    | false =>
      simp only [show (false == true) = false from rfl, Bool.false_eq_true, if_false, Bnd_some, Gd_some, pickV_bool, cond_false, IfP_bool, bsl_op]
      exact key _
theorem bsl_res : bsl 52 13 [(0, (.str [116, 114, 117, 101])), (1, (.str [102, 97, 108, 115, 101])), (2, (.str [108, 101, 116])), (3, (.str [102, 111, 114, 97, 108, 108])), (4, (.str [101, 120, 105, 115, 116, 115])), (5, (.str [109, 97, 116, 99, 104])), (6, (.str [112, 97, 114])), (7, (.str [33])), (8, (.str [95])), (9, (.str [97, 115])), (10, (.str [100, 105, 118])), (11, (.str [109, 111, 100])), (12, (.str [97, 98, 115]))] = some (strs resR) := by kernel_rfl
theorem l28 (x : List UInt8) (L : List (List UInt8)) (hL : L.length ≤ 900) (Q : AV → St → Prop) (hD : place x L 0 = none → ∀ s, f28j1 Q (.str x) s) (hQ : place x L 0 ≠ none → ∀ s, Q (.bool true) s) : ∀ (m i : Nat) (s : St), i + m = L.length → (place x L 0 = none ↔ place x (L.drop i) i = none) → ∃ n, f28l1 Q n (.str x) (strs L) (.int .i64 i) s := by
  intro m
  induction m with
  | zero =>
    intro i s hi hr
    refine ⟨1, ?_⟩
    show f28l1s Q (f28l1 Q 0) _ _ _ s
    unfold f28l1s
    have h0 : place x L 0 = none := by rw [hr, List.drop_eq_nil_of_le (by omega)]; rfl
    have hlen : ∀ id st, bt .len #[52] [strs L] id st = some (.int .i64 L.length, st) := fun id st => by rw [strs, len_sl, List.length_map]
    simp [hlen, Bnd_some, bin_lss, IfP_bool, show ¬ (i < L.length) by omega]
    exact hD h0 _
  | succ m ih =>
    intro i s hi hr
    have hlt : i < L.length := by omega
    have hd : L.drop i = L[i] :: L.drop (i + 1) := List.drop_eq_getElem_cons hlt
    rw [hd, place] at hr
    have hlen : ∀ id st, bt .len #[52] [strs L] id st = some (.int .i64 L.length, st) := fun id st => by rw [strs, len_sl, List.length_map]
    by_cases hp : (L[i] == x) = true
    · rw [if_pos hp] at hr
      refine ⟨1, ?_⟩
      show f28l1s Q (f28l1 Q 0) _ _ _ s
      unfold f28l1s
      simp only [hlen, Bnd_some, bin_lss, IfP_bool, ix_strs L i hlt, ld_one, bin_seql, hp, Int.ofNat_lt, hlt, decide_true, if_true]
      exact hQ (fun h => by have := hr.1 h; cases this) _
    · rw [if_neg hp] at hr
      have hp' : (L[i] == x) = false := by simpa using hp
      obtain ⟨n, hn⟩ := ih (i + 1) _ (by omega) hr
      refine ⟨n + 1, ?_⟩
      show f28l1s Q (f28l1 Q n) _ _ _ s
      unfold f28l1s f28j2
      simp only [hlen, Bnd_some, bin_lss, IfP_bool, ix_strs L i hlt, ld_one, bin_seql, hp', Int.ofNat_lt, hlt, decide_true, if_true, Bool.false_eq_true, if_false, bin_add]
      rw [wrap_nat i (by omega)]
      exact hn
def pre2 (n : Nat) (p x : List UInt8) : Bool := decide (n ≤ x.length) && (x.take n == p)
theorem c28 (x : List UInt8) : PureC Tryz.env 28 [.str x] (.bool ((place x resR 0).isSome || (pre2 4 [115, 116, 114, 46] x || pre2 3 [114, 101, 46] x || (opM x != 0)))) := by
  refine pure_closed rfl (f28_run _ _ ?_)
  unfold f28
  simp only [bsl_res, Bnd_some]
  refine l28 x resR (by decide) _ (fun h s => ?_) (fun h s => ?_) resR.length 0 _ (by simp) Iff.rfl
  · rw [h]
    have hs : ∀ (n : Nat) (p : List UInt8) (id1 : Nat) (s : St) (K : AV → St → Prop), (∀ s', K (.bool (pre2 n p x)) s') → (Bnd (bn .geq 3 (.int .i64 (x.length : Int)) (.int .i64 (n : Int))) fun t22 =>
        Gd (wantV t22 true) s (fun k => k (.str x) s) fun t24 s1 =>
        Gd (wantV t22 true) s1 (fun k => Bnd (slc 9 t24 none (some (.int .i64 (n : Int))) none s1) fun v => k v s1) fun t25 s2 =>
        Gd (wantV t22 true) s2 (fun k => Bnd (bn .eql 9 t25 (.str p)) fun v => k v s2) fun t26 s3 =>
        Bnd (pickV t22 t26 (.bool false)) fun t27 => K t27 s3) := by
      intro n p id1 s K hK
      simp only [Bnd_some, bin_geq, wantV_bool, Gd_some, pickV_bool]
      by_cases hn : n ≤ x.length
      · have h1 : ((x.length : Int) ≥ (n : Int)) := by omega
        simp only [h1, decide_true, beq_self_eq_true, if_true, Gd_some, slc_str, bounds_hi, hn, Option.map_some, Bnd_some, bin_seql, cond_true, pickV_bool, List.drop_zero, Nat.sub_zero]
        have := hK s
        simpa [pre2, hn] using this
      · have h1 : ¬ ((x.length : Int) ≥ (n : Int)) := by omega
        simp only [h1, decide_false, show (false == true) = false from rfl, Bool.false_eq_true, if_false, Gd_some, Bnd_some, cond_false, pickV_bool]
        have := hK s
        simpa [pre2, hn] using this
    unfold f28j1
    simp only [len_str, Bnd_some]
    refine hs 4 _ 0 _ _ fun s1 => ?_
    refine hs 3 _ 0 _ _ fun s2 => ?_
    cases h1 : pre2 4 [115, 116, 114, 46] x with
    | true => simp [Gd_some, Bnd_some, wantV_bool, pickV_bool]
    | false =>
      cases h2 : pre2 3 [114, 101, 46] x with
      | true => simp [Gd_some, Bnd_some, wantV_bool, pickV_bool]
      | false =>
        simp only [wantV_bool, Gd_some, beq_self_eq_true, if_true, Bnd_some, pickV_bool, cond_false]
        refine callPu (c23 x) (by simp [AV.closed]) ?_
        simp [Bnd_some, bin_neq, pickV_bool]
  · cases hp : place x resR 0 with
    | none => exact absurd hp h
    | some j => simp

/-! ### Sorts -/
def sxA (l : Bool) (k : Int) (x : List UInt8) (p a : Int) (v : AV) : AV := .agg [.bool l, .int .i64 k, .str x, .int .i64 p, .int .i64 a, v]
def sortL : List (List UInt8 × Int) := [([66, 111, 111, 108], 1), ([73, 110, 116], 2), ([83, 116, 114, 105, 110, 103], 3)]
def sortN (l : Bool) (k : Int) (x : List UInt8) : Option Int := if (!l && (k == 3)) = true then hit sortL x else none
def sortA (o : Option Int) : AV := .tup [.int .i64 (o.getD 0), .int .i64 (cond o.isSome 0 101)]
theorem sx_one (l k x p a) {v : AV} (hv : v.one = true) : (sxA l k x p a v).cells.all AV.one = true := by
  show (true && (true && (true && (true && (true && (v.one && true)))))) = true
  rw [hv]; rfl
theorem c26 (l : Bool) (k : Int) (x : List UInt8) (p a : Int) (v : AV) (hv : v.one = true) : PureC Tryz.env 26 [sxA l k x p a v] (sortA (sortN l k x)) := by
  refine pure_closed rfl (f26_run _ _ ?_)
  unfold f26
  refine ⟨sx_one l k x p a hv, ?_⟩
  cases l with
  | true =>
    simp only [sxA, AV.cells, f26j1, shiftP_ptr, shiftP_pel, Bnd_some, IfP_bool, Gd_some, ld_ptr, ld_pel, adv_h, adv_nx, set_h, set_nx, beq_self', cond_true, cond_false, part_one, List.getElem?_cons_zero, List.getElem?_cons_succ, un_not, wantV_bool, pickV_bool, extr_tup, bin_lss, bin_leq, bin_gtr, bin_geq, bin_eql, bin_neq, bin_seql, bin_sneq, bin_add, bin_sub, Nat.zero_add, Nat.reduceAdd, beq_self_eq_true, if_true, if_false, Bool.false_eq_true, Bool.not_true, Bool.not_false, show (false == true) = false from rfl, show (true == false) = false from rfl]
    rfl
  | false =>
    simp only [sxA, AV.cells, f26j1, shiftP_ptr, shiftP_pel, Bnd_some, IfP_bool, Gd_some, ld_ptr, ld_pel, adv_h, adv_nx, set_h, set_nx, beq_self', cond_true, cond_false, part_one, List.getElem?_cons_zero, List.getElem?_cons_succ, un_not, wantV_bool, pickV_bool, extr_tup, bin_lss, bin_leq, bin_gtr, bin_geq, bin_eql, bin_neq, bin_seql, bin_sneq, bin_add, bin_sub, Nat.zero_add, Nat.reduceAdd, beq_self_eq_true, if_true, if_false, Bool.false_eq_true, Bool.not_true, Bool.not_false, show (false == true) = false from rfl, show (true == false) = false from rfl]
    cases hk : (k == 3) with
    | false => simp [sortN, sortA, hk]
    | true =>
      simp only [if_true]
      refine hitP (l := sortL) (c := fun n => AV.tup [.int .i64 n, .int .i64 0] = sortA (sortN false k x)) (fun n h => ?_) (fun h => ?_)
      · simp [sortN, sortA, hk, h]
      · simp [sortN, sortA, hk, h]
theorem bsl_sort : bsl 52 3 [(0, (.str [66, 111, 111, 108])), (1, (.str [73, 110, 116])), (2, (.str [83, 116, 114, 105, 110, 103]))] = some (strs sortR) := by kernel_rfl
def sortM (l : Bool) (k : Int) (x : List UInt8) (o : Option Nat) : Option Int := if (!l && (k == 3)) = true then o.map fun j => (j : Int) + 1 else none
theorem l27 (l : Bool) (k : Int) (x : List UInt8) (p a : Int) (v : AV) (b : Nat) (e : TypeId) (Q : AV → St → Prop) (hQ : ∀ s, Q (sortA (sortM l k x (place x sortR 0))) s) : ∀ (m i : Nat) (s : St), i + m = sortR.length → s.h b = some (.cells (sxA l k x p a v).cells e true true) → sortM l k x (place x sortR 0) = sortM l k x (place x (sortR.drop i) i) →
    ∃ n, f27l1 Q n (.ptr b 0) (strs sortR) (.int .i64 i) s := by
  intro m
  induction m with
  | zero =>
    intro i s hi hs hr
    refine ⟨1, ?_⟩
    show f27l1s Q (f27l1 Q 0) _ _ _ s
    unfold f27l1s f27j1
    have hi3 : i = 3 := by simpa [sortR] using hi
    subst hi3
    simp [Bnd_some, bin_lss, IfP_bool]
    have := hQ (adv (adv s 2) 2)
    rw [hr] at this
    simpa [sortR, place, sortM, sortA] using this
  | succ m ih =>
    intro i s hi hs hr
    have hlt : i < sortR.length := by omega
    have h3 : i < 3 := by simpa [sortR] using hlt
    obtain ⟨y, hy⟩ : ∃ y, sortR[i]? = some y := ⟨_, List.getElem?_eq_getElem hlt⟩
    have hix := ix_strs2 sortR i y hy
    have hd := drop_get sortR i y hy
    rw [hd, place] at hr
    have h3' : ((i : Int) < 3) := by omega
    cases hgo : (!l && (k == 3)) with
    | false =>
      have hn : ∀ o, sortM l k x o = none := fun o => by simp [sortM, hgo]
      obtain ⟨n, hn'⟩ := ih (i + 1) (adv (adv s 21) 3) (by omega) hs (by rw [hn, hn])
      refine ⟨n + 1, ?_⟩
      show f27l1s Q (f27l1 Q n) _ _ _ s
      cases l with
      | true =>
        simp only [f27l1s, f27j2, hs, sxA, AV.cells, h3', decide_true, shiftP_ptr, shiftP_pel, Bnd_some, IfP_bool, Gd_some, ld_ptr, ld_pel, adv_h, adv_nx, set_h, set_nx, beq_self', cond_true, cond_false, part_one, List.getElem?_cons_zero, List.getElem?_cons_succ, un_not, wantV_bool, pickV_bool, extr_tup, bin_lss, bin_leq, bin_gtr, bin_geq, bin_eql, bin_neq, bin_seql, bin_sneq, bin_add, bin_sub, Nat.zero_add, Nat.reduceAdd, beq_self_eq_true, if_true, if_false, Bool.false_eq_true, Bool.not_true, Bool.not_false, show (false == true) = false from rfl, show (true == false) = false from rfl]
        rw [wrap_nat i (by omega)]; exact hn'
      | false =>
        have hk : (k == 3) = false := by simpa using hgo
        simp only [f27l1s, f27j2, hs, sxA, AV.cells, h3', hk, decide_true, shiftP_ptr, shiftP_pel, Bnd_some, IfP_bool, Gd_some, ld_ptr, ld_pel, adv_h, adv_nx, set_h, set_nx, beq_self', cond_true, cond_false, part_one, List.getElem?_cons_zero, List.getElem?_cons_succ, un_not, wantV_bool, pickV_bool, extr_tup, bin_lss, bin_leq, bin_gtr, bin_geq, bin_eql, bin_neq, bin_seql, bin_sneq, bin_add, bin_sub, Nat.zero_add, Nat.reduceAdd, beq_self_eq_true, if_true, if_false, Bool.false_eq_true, Bool.not_true, Bool.not_false, show (false == true) = false from rfl, show (true == false) = false from rfl]
        rw [wrap_nat i (by omega)]; exact hn'
    | true =>
      simp only [Bool.and_eq_true, Bool.not_eq_true'] at hgo
      obtain ⟨rfl, hk⟩ := hgo
      by_cases hp : (y == x) = true
      · rw [if_pos hp] at hr
        refine ⟨1, ?_⟩
        show f27l1s Q (f27l1 Q 0) _ _ _ s
        have hp2 : (x == y) = true := by rw [beq_iff_eq] at hp ⊢; exact hp.symm
        simp only [f27l1s, f27j2, hs, sxA, AV.cells, h3', hk, decide_true, hix, hp2, shiftP_ptr, shiftP_pel, Bnd_some, IfP_bool, Gd_some, ld_ptr, ld_pel, adv_h, adv_nx, set_h, set_nx, beq_self', cond_true, cond_false, part_one, List.getElem?_cons_zero, List.getElem?_cons_succ, un_not, wantV_bool, pickV_bool, extr_tup, bin_lss, bin_leq, bin_gtr, bin_geq, bin_eql, bin_neq, bin_seql, bin_sneq, bin_add, bin_sub, Nat.zero_add, Nat.reduceAdd, beq_self_eq_true, if_true, if_false, Bool.false_eq_true, Bool.not_true, Bool.not_false, show (false == true) = false from rfl, show (true == false) = false from rfl]
        rw [wrap_nat i (by omega)]
        have := hQ (adv (adv s 21) 4)
        rw [hr] at this
        simpa [sortM, sortA, hk] using this
      · rw [if_neg hp] at hr
        have hp' : (y == x) = false := by simpa using hp
        obtain ⟨n, hn⟩ := ih (i + 1) (adv (adv s 21) 3) (by omega) hs hr
        refine ⟨n + 1, ?_⟩
        show f27l1s Q (f27l1 Q n) _ _ _ s
        have hp2 : (x == y) = false := by rw [beq_eq_false_iff_ne] at hp' ⊢; exact Ne.symm hp'
        simp only [f27l1s, f27j2, hs, sxA, AV.cells, h3', hk, decide_true, hix, hp2, shiftP_ptr, shiftP_pel, Bnd_some, IfP_bool, Gd_some, ld_ptr, ld_pel, adv_h, adv_nx, set_h, set_nx, beq_self', cond_true, cond_false, part_one, List.getElem?_cons_zero, List.getElem?_cons_succ, un_not, wantV_bool, pickV_bool, extr_tup, bin_lss, bin_leq, bin_gtr, bin_geq, bin_eql, bin_neq, bin_seql, bin_sneq, bin_add, bin_sub, Nat.zero_add, Nat.reduceAdd, beq_self_eq_true, if_true, if_false, Bool.false_eq_true, Bool.not_true, Bool.not_false, show (false == true) = false from rfl, show (true == false) = false from rfl]
        rw [wrap_nat i (by omega)]
        exact hn
theorem c27 (l : Bool) (k : Int) (x : List UInt8) (p a : Int) (v : AV) (hv : v.one = true) : PureC Tryz.env 27 [sxA l k x p a v] (sortA (sortM l k x (place x sortR 0))) := by
  refine pure_closed rfl (f27_run _ _ ?_)
  unfold f27
  refine ⟨sx_one l k x p a hv, ?_⟩
  simp only [bsl_sort, Bnd_some]
  exact l27 l k x p a v _ 33 _ (fun _ => rfl) 3 0 _ rfl (by simp only [adv_h, set_h, beq_self', cond_true]) rfl
theorem sort_same (l : Bool) (k : Int) (x : List UInt8) : sortM l k x (place x sortR 0) = sortN l k x := by
  have h2 : (place x sortR 0).map (fun j => (j : Int) + 1) = hit sortL x := by
    by_cases h1 : x = [66, 111, 111, 108]
    · subst h1; decide
    by_cases h2 : x = [73, 110, 116]
    · subst h2; decide
    by_cases h3 : x = [83, 116, 114, 105, 110, 103]
    · subst h3; decide
    · simp [place, sortR, hit, sortL, h1, h2, h3, Ne.symm h1, Ne.symm h2, Ne.symm h3]
  unfold sortM sortN
  rw [h2]
theorem hit_none {l : List (List UInt8 × Int)} {x : List UInt8} : hit l x = none ↔ x ∉ l.map (·.1) := by
  induction l with
  | nil => simp [hit]
  | cons p l ih =>
    obtain ⟨p, v⟩ := p
    simp only [hit, List.map_cons, List.mem_cons, not_or]
    by_cases h : (x == p) = true
    · rw [if_pos h]; have : x = p := by simpa using h
      simp [this]
    · rw [if_neg h, ih]; have : x ≠ p := by simpa using h
      simp [this]
theorem place_none {x : List UInt8} : ∀ {L : List (List UInt8)} {i : Nat}, place x L i = none ↔ x ∉ L := by
  intro L
  induction L with
  | nil => intro i; simp [place]
  | cons p l ih =>
    intro i
    simp only [place, List.mem_cons, not_or]
    by_cases h : (p == x) = true
    · rw [if_pos h]; have : p = x := by simpa using h
      simp [this]
    · rw [if_neg h, ih]; have : p ≠ x := by simpa using h
      simp [Ne.symm this]
theorem hit_pos {l : List (List UInt8 × Int)} {x : List UInt8} {v : Int} (hl : ∀ q ∈ l, 0 < q.2) (h : hit l x = some v) : 0 < v := by
  induction l with
  | nil => cases h
  | cons p l ih =>
    obtain ⟨p, w⟩ := p
    simp only [hit] at h
    split at h
    · cases h; exact hl _ (List.mem_cons_self ..)
    · exact ih (fun q hq => hl q (List.mem_cons_of_mem _ hq)) h
theorem opN_zero (x : List UInt8) : (opN x != 0) = decide (x ∈ opL.map (·.1) ++ txL.map (·.1)) := by
  unfold opN
  cases h1 : hit opL x with
  | some v =>
    have hv := hit_pos (by decide) h1
    have hm : x ∈ opL.map (·.1) := by
      by_cases h : x ∈ opL.map (·.1)
      · exact h
      · rw [hit_none.2 h] at h1; cases h1
    simp only [Option.getD_some, List.mem_append, hm, true_or, decide_true]
    simp; omega
  | none =>
    have hm := hit_none.1 h1
    cases h2 : hit txL x with
    | some v =>
      have hv := hit_pos (by decide) h2
      have hm2 : x ∈ txL.map (·.1) := by
        by_cases h : x ∈ txL.map (·.1)
        · exact h
        · rw [hit_none.2 h] at h2; cases h2
      simp only [Option.getD_some, Option.getD_none, List.mem_append, hm2, or_true, decide_true]
      simp; omega
    | none =>
      have hm2 := hit_none.1 h2
      simp only [Option.getD_none, List.mem_append, hm, hm2, or_self, decide_false]
      rfl
theorem opM_zero (x : List UInt8) : (opM x != 0) = decide (x ≠ [] ∧ x ∈ opR) := by
  unfold opM
  cases hx : (x == []) with
  | true =>
    have : x = [] := by simpa using hx
    subst this
    simp
  | false =>
    have hx' : x ≠ [] := by simpa using hx
    simp only [cond_false]
    cases h : place x opR 0 with
    | none =>
      have := place_none.1 h
      simp [this]
    | some j =>
      have hm : x ∈ opR := by
        by_cases hm : x ∈ opR
        · exact hm
        · rw [place_none.2 hm] at h; cases h
      simp only [hx', hm, ne_eq, not_false_eq_true, and_self, decide_true, Option.map_some, Option.getD_some]
      simp; omega
theorem op_same (x : List UInt8) : (opN x != 0) = (opM x != 0) := by
  rw [opN_zero, opM_zero]
  apply decide_eq_decide.2
  constructor
  · intro h
    have key : ∀ y ∈ opL.map (·.1) ++ txL.map (·.1), y ≠ [] ∧ y ∈ opR := by decide
    exact key x h
  · rintro ⟨h1, h2⟩
    have key : ∀ y ∈ opR, y = [] ∨ y ∈ opL.map (·.1) ++ txL.map (·.1) := by decide
    exact (key x h2).resolve_left h1
theorem res_same (x : List UInt8) : ((hit resN x).isSome || (opN x != 0) || pre [115, 116, 114, 46] x || pre [114, 101, 46] x) = ((place x resR 0).isSome || (pre2 4 [115, 116, 114, 46] x || pre2 3 [114, 101, 46] x || (opM x != 0))) := by
  have h1 : (hit resN x).isSome = (place x resR 0).isSome := by
    have e : resN.map (·.1) = resR := by decide
    cases ha : hit resN x with
    | none =>
      have := hit_none.1 ha
      rw [e] at this
      rw [place_none.2 this]; rfl
    | some v =>
      cases hb : place x resR 0 with
      | some j => rfl
      | none =>
        have := place_none.1 hb
        rw [← e] at this
        rw [hit_none.2 this] at ha; cases ha
  have h2 : ∀ p, pre p x = pre2 p.length p x := fun p => rfl
  rw [h1, op_same, h2, h2]
  show _ = ((place x resR 0).isSome || (pre2 4 [115, 116, 114, 46] x || pre2 3 [114, 101, 46] x || (opM x != 0)))
  simp only [List.length_cons, List.length_nil]
  cases (place x resR 0).isSome <;> cases (opM x != 0) <;> cases pre2 4 [115, 116, 114, 46] x <;> cases pre2 3 [114, 101, 46] x <;> rfl

end Go.Proofs.YtdehdahimkcakaaGreatDoor
