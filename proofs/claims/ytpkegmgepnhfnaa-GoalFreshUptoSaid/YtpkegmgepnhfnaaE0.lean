/- Readings of terms and moments as abstract values. -/
import Derived.Test.YtpkegmgepnhfnaaA23
import Derived.Test.YtpkegmgepnhfnaaD9
import Derived.KernelRfl
namespace Go.Abs.Q
open Go.Proofs
open Go.Proofs.Ytpkegmgepnhfnaa (Rows.uptoBulk Rows.uptoBulkAll)

theorem c3 : Try.prog.cellsOf 3 = 1 := by kernel_rfl
theorem c9 : Try.prog.cellsOf 9 = 1 := by kernel_rfl
theorem c36 : Try.prog.cellsOf 36 = 1 := by kernel_rfl
theorem c37 : Try.prog.cellsOf 37 = 1 := by kernel_rfl
theorem c65 : Try.prog.cellsOf 65 = 4 := by kernel_rfl
theorem c39 : Try.prog.cellsOf 39 = 6 := by kernel_rfl

variable {w : World}

theorem sizes_sum (l : List Tm) : (l.map Tm.size).sum = Tm.sizes l := by
  induction l with
  | nil => rfl
  | cons t l ih => simp [Tm.sizes, ih]

theorem opens_tm : ∀ n, Opens Try.prog w 65 (fun t : Tm => (tmV t).cells) (fun _ => True) Tm.size n := by
  intro n
  induction n using Nat.strongRecOn with
  | _ n ih =>
    intro H enc cs x hx
    obtain ⟨m, xs, rfl, hcl, hxl, hx1, hf⟩ := struct_parts Try.underlying65 c65 (fun i f hi => by
      rcases i with _ | _ | _ | _ | i
      · cases hi; exact ⟨rfl, c3⟩
      · cases hi; exact ⟨rfl, c9⟩
      · cases hi; exact ⟨rfl, c3⟩
      · cases hi; exact ⟨rfl, c37⟩
      · simp at hi) hx
    obtain ⟨v0, y0, hv0, hy0, h0⟩ := hf 0 _ rfl
    obtain ⟨v1, y1, hv1, hy1, h1⟩ := hf 1 _ rfl
    obtain ⟨v2, y2, hv2, hy2, h2⟩ := hf 2 _ rfl
    obtain ⟨v3, y3, hv3, hy3, h3⟩ := hf 3 _ rfl
    obtain ⟨k, -, w0, cv0⟩ := opens_int (w := w) Try.underlying3 m enc _ _ h0
    obtain ⟨nm, -, w1, cv1⟩ := opens_str (w := w) Try.underlying9 m enc _ _ h1
    obtain ⟨s, -, w2, cv2⟩ := opens_int (w := w) Try.underlying3 m enc _ _ h2
    cases m with
    | zero => simp [DataW.trod] at h3
    | succ m =>
      obtain ⟨⟨bk, kids⟩, -, w3, cv3⟩ := opens_slice (w := w) Try.underlying37 c65 (by omega) (ih m (by omega)) enc _ _ h3
      have hcs : cs = [v0, v1, v2, v3] := by
        match cs, hcl with
        | [a, b, c, d], _ => simp at hv0 hv1 hv2 hv3; simp [hv0, hv1, hv2, hv3]
      have hxs : xs = [y0, y1, y2, y3] := by
        match xs, hxl with
        | [a, b, c, d], _ => simp at hy0 hy1 hy2 hy3; simp [hy0, hy1, hy2, hy3]
      subst hcs hxs
      refine ⟨.mk k nm s (false, bk) kids, trivial, ?_, ?_⟩
      · rw [hx1]
        dsimp only at w0 w1 w2 w3
        rw [sizes_sum] at w3
        simp only [Tm.size, List.map_cons, List.map_nil, Rows.uptoBulk, Rows.uptoBulkAll]
        omega
      · dsimp only at cv0 cv1 cv2 cv3
        simp only [tmV, cells_agg]
        rw [tmVs_map]
        exact CV_cons cv0 (CV_cons cv1 (CV_cons cv2 cv3))

def moW (x : Mo) : Nat := x.agents.length + Tm.sizes x.terms + 1

theorem sum_ge {α : Type} {f : α → Nat} (h : ∀ a, 1 ≤ f a) : ∀ l : List α, l.length ≤ (l.map f).sum
  | [] => by simp
  | a :: l => by have := h a; have := sum_ge h l; simp; omega

theorem opens_mo (n : Nat) : Opens Try.prog w 39 (fun x : Mo => (moV x).cells) (fun _ => True) moW n := by
  intro H enc cs x hx
  obtain ⟨m, xs, rfl, hcl, hxl, hx1, hf⟩ := struct_parts Try.underlying39 c39 (fun i f hi => by
    rcases i with _ | _ | _ | _ | _ | _ | i
    · cases hi; exact ⟨rfl, c3⟩
    · cases hi; exact ⟨rfl, c3⟩
    · cases hi; exact ⟨rfl, c3⟩
    · cases hi; exact ⟨rfl, c36⟩
    · cases hi; exact ⟨rfl, c3⟩
    · cases hi; exact ⟨rfl, c37⟩
    · simp at hi) hx
  obtain ⟨v0, y0, hv0, hy0, h0⟩ := hf 0 _ rfl
  obtain ⟨v1, y1, hv1, hy1, h1⟩ := hf 1 _ rfl
  obtain ⟨v2, y2, hv2, hy2, h2⟩ := hf 2 _ rfl
  obtain ⟨v3, y3, hv3, hy3, h3⟩ := hf 3 _ rfl
  obtain ⟨v4, y4, hv4, hy4, h4⟩ := hf 4 _ rfl
  obtain ⟨v5, y5, hv5, hy5, h5⟩ := hf 5 _ rfl
  obtain ⟨k, -, w0, cv0⟩ := opens_int (w := w) Try.underlying3 m enc _ _ h0
  obtain ⟨nb, -, w1, cv1⟩ := opens_int (w := w) Try.underlying3 m enc _ _ h1
  obtain ⟨ro, -, w2, cv2⟩ := opens_int (w := w) Try.underlying3 m enc _ _ h2
  obtain ⟨go, -, w4, cv4⟩ := opens_int (w := w) Try.underlying3 m enc _ _ h4
  cases m with
  | zero => simp [DataW.trod] at h3
  | succ m =>
    obtain ⟨⟨ba, ags⟩, -, w3, cv3⟩ := opens_slice (w := w) (enc := AV.str) Try.underlying36 c9 (by omega) (opens_str (w := w) Try.underlying9 m) enc _ _ h3
    obtain ⟨⟨bt, tms⟩, -, w5, cv5⟩ := opens_slice (w := w) Try.underlying37 c65 (by omega) (opens_tm m) enc _ _ h5
    have hcs : cs = [v0, v1, v2, v3, v4, v5] := by
      match cs, hcl with
      | [a, b, c, d, e, f], _ => simp at hv0 hv1 hv2 hv3 hv4 hv5; simp [hv0, hv1, hv2, hv3, hv4, hv5]
    have hxs : xs = [y0, y1, y2, y3, y4, y5] := by
      match xs, hxl with
      | [a, b, c, d, e, f], _ => simp at hy0 hy1 hy2 hy3 hy4 hy5; simp [hy0, hy1, hy2, hy3, hy4, hy5]
    subst hcs hxs
    refine ⟨⟨k, nb, ro, (false, ba), ags, go, (false, bt), tms⟩, trivial, ?_, ?_⟩
    · rw [hx1]
      dsimp only at w0 w1 w2 w3 w4 w5
      rw [sizes_sum] at w5
      have := sum_ge (f := fun s : ByteArray => s.size + 1) (fun s => by omega) ags
      simp only [moW, List.map_cons, List.map_nil, Rows.uptoBulk, Rows.uptoBulkAll]
      omega
    · dsimp only at cv0 cv1 cv2 cv3 cv4 cv5
      simp only [moV, cells_agg]
      rw [tmVs_map]
      exact CV_cons cv0 (CV_cons cv1 (CV_cons cv2 (CV_cons cv3 (CV_cons cv4 cv5))))

theorem totM_le (l : List Mo) : totM l ≤ (l.map moW).sum := by
  induction l with
  | nil => simp [totM]
  | cons x l ih => simp only [totM, List.map_cons, List.sum_cons]; have e : moW x = x.agents.length + Tm.sizes x.terms + 1 := rfl; omega

theorem opens_mos (n : Nat) : Opens Try.prog w 22 (fun l : Bool × List Mo => [mosV (false, l.1) l.2]) (fun _ => True) (fun l => (l.2.map moW).sum + 1) n := by
  intro H enc cs x hx
  cases n with
  | zero => simp [DataW.trod] at hx
  | succ n =>
    obtain ⟨l, -, h1, h2⟩ := opens_slice (w := w) Try.underlying22 c39 (by omega) (opens_mo n) enc _ _ hx
    exact ⟨l, trivial, h1, h2⟩
end Go.Abs.Q
