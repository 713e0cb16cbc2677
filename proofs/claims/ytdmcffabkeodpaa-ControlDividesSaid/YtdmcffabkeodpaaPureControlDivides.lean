/- The control totals of the lists into which payments are divided add up to those of the payments, the lists joined are the payments, and none is empty or longer than permitted: for all drawn payments and every number. -/
import Derived.Test.YtdmcffabkeodpaaLib39c
import Derived.Test.YtdmcffabkeodpaaQx16
import Derived.Test.YtdmcffabkeodpaaQx6
namespace Go.Proofs.Ytdmcffabkeodpaa.Pure
open Go.RowKit Go.Proofs.Ytdmcffabkeodpaa.Q Go.Proofs.YtdmcffabkeodpaaW.PrintWords Go.Proofs.YtdmcffabkeodpaaW.PrintLast Go.Proofs.Ytdmcffabkeodpaa.DeckLib Go.Proofs.Ytdmcffabkeodpaa.Lib39 Go.Proofs.Ytdmcffabkeodpaa.ListKit Go.Proofs.Ytdmcffabkeodpaa.MapKit
theorem rd2 (l : List (List Pay)) (i : Nat) (h : i < l.length) : rd_L2 l (i : Int) = l[i] := by
  simp [rd_L2, List.getD_eq_getElem?_getD, List.getElem?_eq_getElem h]
theorem divides_loop (x : List Pay) (n : Int) (cs : List (List Pay)) (hx : x.all payB = true) (hx2 : x.length ≤ 100) (hf : cs.flatten = x) (hc : ∀ c ∈ cs, 0 < c.length ∧ (c.length : Int) ≤ n) (hl : cs.length ≤ 100) (suf : List (List Pay)) :
    ∀ (pre : List (List Pay)) (k : Nat), cs = pre ++ suf → 10000 + suf.length ≤ k → payrolllaw39_ControlDivides.l0 (k + 1) x n cs pre.flatten (pre.length : Int) (x.length : Int) (sumA x) (sumE x) (pre.flatten.length : Int) (sumA pre.flatten) (sumE pre.flatten) = some true := by
  induction suf with
  | nil =>
    intro pre k hp hk
    simp only [payrolllaw39_ControlDivides.l0]
    rw [List.append_nil] at hp
    subst hp
    rw [if_neg (by omega), hf, same_self x k (by omega) (by omega), Option.bind_some, if_pos rfl, if_pos (by simp), awake_ok k (by omega)]
    rfl
  | cons c suf ih =>
    intro pre k hp hk
    have hlt : pre.length < cs.length := by rw [hp]; simp
    have hrd : rd_L2 cs (pre.length : Int) = c := by rw [rd2 _ _ hlt]; simp [hp]
    have hcm : c ∈ cs := by rw [hp]; simp
    have hcl := hc c hcm
    have hfl : x = pre.flatten ++ (c ++ suf.flatten) := by rw [← hf, hp]; simp
    have hall : pre.flatten.all payB = true ∧ c.all payB = true := by
      rw [hfl, List.all_append, List.all_append, Bool.and_eq_true, Bool.and_eq_true] at hx
      exact ⟨hx.1, hx.2.1⟩
    have hlen : pre.flatten.length + c.length ≤ 100 := by
      have := congrArg List.length hfl
      simp only [List.length_append] at this
      omega
    simp only [payrolllaw39_ControlDivides.l0]
    rw [List.length_cons] at hk
    rw [if_pos (by omega), if_pos (by omega), hrd, of_eq c k (by omega), Option.bind_some, ofSpec_ok c hall.2 (by omega)]
    simp only []
    rw [add_eq _ _ _ _ _ _ k (by omega), Option.bind_some]
    have ha : addSpec (pre.flatten.length : Int) (sumA pre.flatten) (sumE pre.flatten) (c.length : Int) (sumA c) (sumE c) = (((pre ++ [c]).flatten.length : Int), sumA (pre ++ [c]).flatten, sumE (pre ++ [c]).flatten, 0) := by
      have e : (pre ++ [c]).flatten = pre.flatten ++ c := by simp
      have h3 := ctl_ok (pre.flatten ++ c) (by rw [List.all_append, hall.1, hall.2]; rfl) (by rw [List.length_append]; omega)
      rw [sumA_append, sumE_append, List.length_append, Int.natCast_add] at h3
      unfold addSpec
      rw [if_pos ⟨ctl_ok _ hall.1 (by omega), ctl_ok _ hall.2 (by omega)⟩, if_pos h3, e, sumA_append, sumE_append, List.length_append, Int.natCast_add]
    rw [ha]
    simp only [if_true]
    rw [if_neg (by omega), if_neg (by omega), if_pos (by omega), wrap_id (by omega) (by omega)]
    obtain ⟨k, rfl⟩ : ∃ j, k = j + 1 := ⟨k - 1, by omega⟩
    have := ih (pre ++ [c]) k (by rw [hp]; simp) (by omega)
    have e : (pre ++ [c]).flatten = pre.flatten ++ c := by simp
    rw [e, List.length_append, List.length_singleton] at this
    rw [e]
    exact this
theorem ControlDivides : payrolllaw39_ControlDivides.Pure := by
  intro l a _ _ _ _
  obtain ⟨K, hK⟩ : ∃ K : Nat, K = 20000 := ⟨_, rfl⟩
  refine ⟨K + 1, ?_⟩
  unfold payrolllaw39_ControlDivides.f paygen_New.f paygen_Mod.f
  simp only [Option.bind_some]
  obtain ⟨x, at2, hx, hl, hb, _, _⟩ := payments_ok l 0 12 (K + 1) (by omega) (by omega) (by omega) (by omega) (by omega)
  obtain ⟨r, hr, h1, h2⟩ := mod_ok a 5 (by omega) (by omega)
  rw [hx, Option.bind_some, hr, Option.bind_some]
  simp only []
  rw [wrap_id (by omega) (by omega), split_eq _ _ (K + 1) (by omega), Option.bind_some, of_eq _ (K + 1) (by omega), Option.bind_some, ofSpec_ok x hb (by omega)]
  simp only [if_true]
  rw [if_neg (show ¬ (1 + r < 1) by omega)]
  simp only [if_true]
  obtain ⟨c1, c2, c3⟩ := chunks_ok (1 + r).toNat (by omega) x.length x (Nat.le_refl _)
  exact divides_loop x (1 + r) _ hb (by omega) c1 (fun c hc => ⟨(c2 c hc).1, by have := (c2 c hc).2; omega⟩) (by omega) _ [] K rfl (by omega)
end Go.Proofs.Ytdmcffabkeodpaa.Pure
