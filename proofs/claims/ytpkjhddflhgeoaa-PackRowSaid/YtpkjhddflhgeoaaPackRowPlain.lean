/- The plain law of a row of words: each is the next one of the one ahead, so versions go up by one. No program is in sight. -/
import Derived.Test.YtpkjhddflhgeoaaPackPlain
namespace Go.Proofs.Ytpkjhddflhgeoaa
/-- The k-th word of a row that begins at w and takes the values zs. -/
def rowW (w : Int) (zs : List Int) : Nat → Int
  | 0 => w
  | k + 1 => nextN (rowW w zs k) (zs[k]?.getD 0)
theorem rowW_ver (w : Int) (zs : List Int) (n : Nat) (h : ∀ k, k < n → okB 0 (zs[k]?.getD 0) = true) : ∀ k, k ≤ n → ver (rowW w zs k) = (ver w + k) % 4294967296 := by
  intro k
  induction k with
  | zero =>
    intro _
    have := ver_bd w
    show ver w = _
    omega
  | succ k ih =>
    intro hk
    have hi := ih (by omega)
    show ver (nextN (rowW w zs k) (zs[k]?.getD 0)) = _
    rw [nextN_ok (h k (by omega)), ver_wd (nv_bd _)]
    unfold nv
    rw [hi]
    omega
theorem rowW_val (w : Int) (zs : List Int) (k : Nat) (h : okB 0 (zs[k]?.getD 0) = true) : val (rowW w zs (k + 1)) = zs[k]?.getD 0 := by
  show val (nextN (rowW w zs k) (zs[k]?.getD 0)) = _
  have ho := okB_iff.1 h
  rw [nextN_ok h, val_wd (nv_bd _) ⟨ho.2.2.1, ho.2.2.2⟩]
theorem rowW_ne (w : Int) (zs : List Int) (n : Nat) (h : ∀ k, k < n → okB 0 (zs[k]?.getD 0) = true) (hn : n ≤ 300) (j k : Nat) (hj : j < k) (hk : k ≤ n) : rowW w zs j ≠ rowW w zs k := by
  intro e
  have h1 := rowW_ver w zs n h j (by omega)
  have h2 := rowW_ver w zs n h k hk
  rw [e, h2] at h1
  have := ver_bd w
  omega
/-- The first k words. -/
def metW (w : Int) (zs : List Int) (k : Nat) : List Int := (List.range k).map (rowW w zs)
theorem metW_len (w : Int) (zs : List Int) (k : Nat) : (metW w zs k).length = k := by simp [metW]
theorem metW_succ (w : Int) (zs : List Int) (k : Nat) : metW w zs (k + 1) = metW w zs k ++ [rowW w zs k] := by simp [metW, List.range_succ]
theorem metW_at (w : Int) (zs : List Int) (k j : Nat) (h : j < k) : (metW w zs k)[j]? = some (rowW w zs j) := by
  simp [metW, h]
end Go.Proofs.Ytpkjhddflhgeoaa
