/- What every law shows first is true: two vectors are joined and met. No condition. -/
import Derived.Test.YtnnlpelogabokaaPure1
namespace Go.Proofs.Ytnnlpelogabokaa.PV
open Go.RowKit Go.Proofs.YtnnlpelogabokaaW.PrintWords Go.Proofs.YtnnlpelogabokaaW.PrintLast Go.Proofs.YtnnlpelogabokaaW.PrintMore Go.Proofs.Ytnnlpelogabokaa.XW

def nA : ByteArray := ⟨#[97]⟩
def nB : ByteArray := ⟨#[98]⟩
theorem nA_l : nA.toList = [97] := by rw [ByteArray.toList_eq]; rfl
theorem nB_l : nB.toList = [98] := by rw [ByteArray.toList_eq]; rfl
theorem nE_l : (⟨#[]⟩ : ByteArray).toList = [] := by rw [ByteArray.toList_eq]
theorem nA_ok : isNameB nA = true := by decide
theorem nB_ok : isNameB nB = true := by decide
def vA : List S35 := [⟨nA, 2⟩]
def vB : List S35 := [⟨nA, 1⟩, ⟨nB, 3⟩]
def vJ : List S35 := [⟨nA, 2⟩, ⟨nB, 3⟩]
theorem vA_r : rightS vA = true := by simp [rightS, rises, dotOk, vA, nA_ok, nA_l, nE_l, Op.bytesLess]
theorem vB_r : rightS vB = true := by simp [rightS, rises, dotOk, vB, nA_ok, nB_ok, nA_l, nB_l, nE_l, Op.bytesLess]
theorem vJ_r : rightS vJ = true := by simp [rightS, rises, dotOk, vJ, nA_ok, nB_ok, nA_l, nB_l, nE_l, Op.bytesLess]
theorem vAB : mrg vA vB = [(nA, 2, 1), (nB, 0, 3)] := by
  rw [vA, vB, mrg_xy, if_neg (by rw [bl_irr]; decide), if_neg (by rw [bl_irr]; decide), mrg_y, mrg]
theorem vJ_h : hasS vJ nB 2 = true := by
  simp only [hasS, vJ_r, Bool.true_and]
  simp [dotOk, nB_ok, vJ, atS, nA_l, nB_l]
theorem shown_f (k : Nat) (hk : 3 ≤ k) : pannierlaw07_shown.f k = some true := by
  have hA : vector_Right.f k vA = some true := by rw [right_f vA (by decide) k (by simp [vA]; omega), vA_r]
  have hB : vector_Right.f k vB = some true := by rw [right_f vB (by decide) k (by simp [vB]; omega), vB_r]
  have hJ : vector_Join.f k vA vB = some (vJ, 0) := by
    unfold vector_Join.f
    rw [hA, hB, vAB]
    rfl
  have hM : vector_Meet.f k [vA, vB] = some ([⟨nA, 1⟩], 0) := by
    unfold vector_Meet.f
    have h1 : anyBad k [vA, vB] = some false := by simp only [anyBad, hA, hB, Option.bind_some, if_true]
    have h2 : meetF vA [vB] = some [⟨nA, 1⟩] := by rw [meetF, vAB]; rfl
    rw [h1]
    simp only [List.length_cons, List.length_nil, Option.bind_some]
    rw [if_neg (by decide), if_neg (by decide)]
    show (api_Dot_39.f vA).bind _ = _
    rw [show api_Dot_39.f vA = some vA from rfl, Option.bind_some]
    show (meetF vA [vB]).bind _ = _
    rw [h2]
    rfl
  have hH : vector_Has.f k vJ nB 2 = some true := by rw [has_f vJ (by decide) nB 2 k (by simp [vJ]; omega), vJ_h]
  unfold pannierlaw07_shown.f
  show (vector_Join.f k vA vB).bind (fun bt119 => (vector_Meet.f k [vA, vB]).bind _) = _
  rw [hJ, Option.bind_some, hM, Option.bind_some]
  show (vector_Has.f k vJ nB 2).bind _ = _
  rw [hH]
  rfl

end Go.Proofs.Ytnnlpelogabokaa.PV
