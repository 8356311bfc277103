/- A part of the claim's own texts: words, walks and plain laws. -/
import Derived.Test.YthaifibhflfpkaaTp2
import Derived.Test.YthaifibhflfpkaaTp10
namespace Go.Proofs.YthaifibhflfpkaaX
abbrev b67_ : Array Bool := #[false, false, false, false, false, false, false, false, false, false, false, false, false, false, false, false, false, false, false, false, false, false, false, false, false, false, false, false, false, false, false, false, false, false, false, false, false, false, false, false, false, false, false, false, false, false, false, false, false]
abbrev b68_ : Array Bool := #[true, false, false, false, false, false, false, false, false, false, false, false, false, false, false, false, false, false, false, false, false, false, false, false, false, false, false, false, false, false, false, false, false, false, false, false, false, false, false, false, false, false, false, false, false, false, false, false, false]
abbrev b69_ : Array Bool := #[true, true, false, false, false, false, false, false, false, false, false, false, false, false, false, false, false, false, false, false, false, false, false, false, false, false, false, false, false, false, false, false, false, false, false, false, false, false, false, false, false, false, false, false, false, false, false, false, false]
abbrev b70_ : Array Bool := #[true, true, true, false, false, false, false, false, false, false, false, false, false, false, false, false, false, false, false, false, false, false, false, false, false, false, false, false, false, false, false, false, false, false, false, false, false, false, false, false, false, false, false, false, false, false, false, false, false]
abbrev b71_ : Array Bool := #[true, true, true, true, false, false, false, false, false, false, false, false, false, false, false, false, false, false, false, false, false, false, false, false, false, false, false, false, false, false, false, false, false, false, false, false, false, false, false, false, false, false, false, false, false, false, false, false, false]
abbrev b72_ : Array Bool := #[true, true, true, true, true, false, false, false, false, false, false, false, false, false, false, false, false, false, false, false, false, false, false, false, false, false, false, false, false, false, false, false, false, false, false, false, false, false, false, false, false, false, false, false, false, false, false, false, false]
abbrev b73_ : Array Bool := #[true, true, true, true, true, true, false, false, false, false, false, false, false, false, false, false, false, false, false, false, false, false, false, false, false, false, false, false, false, false, false, false, false, false, false, false, false, false, false, false, false, false, false, false, false, false, false, false, false]
abbrev b74_ : Array Bool := #[true, true, true, true, true, true, true, false, false, false, false, false, false, false, false, false, false, false, false, false, false, false, false, false, false, false, false, false, false, false, false, false, false, false, false, false, false, false, false, false, false, false, false, false, false, false, false, false, false]
abbrev b75_ : Array Bool := #[true, true, true, true, true, true, true, true, false, false, false, false, false, false, false, false, false, false, false, false, false, false, false, false, false, false, false, false, false, false, false, false, false, false, false, false, false, false, false, false, false, false, false, false, false, false, false, false, false]
abbrev b76_ : Array Bool := #[true, true, true, true, true, true, true, true, true, false, false, false, false, false, false, false, false, false, false, false, false, false, false, false, false, false, false, false, false, false, false, false, false, false, false, false, false, false, false, false, false, false, false, false, false, false, false, false, false]
abbrev b77_ : Array Bool := #[true, true, true, true, true, true, true, true, true, true, false, false, false, false, false, false, false, false, false, false, false, false, false, false, false, false, false, false, false, false, false, false, false, false, false, false, false, false, false, false, false, false, false, false, false, false, false, false, false]
abbrev b78_ : Array Bool := #[true, true, true, true, true, true, true, true, true, true, true, false, false, false, false, false, false, false, false, false, false, false, false, false, false, false, false, false, false, false, false, false, false, false, false, false, false, false, false, false, false, false, false, false, false, false, false, false, false]
abbrev b79_ : Array Bool := #[true, true, true, true, true, true, true, true, true, true, true, true, false, false, false, false, false, false, false, false, false, false, false, false, false, false, false, false, false, false, false, false, false, false, false, false, false, false, false, false, false, false, false, false, false, false, false, false, false]
abbrev b80_ : Array Bool := #[true, true, true, true, true, true, true, true, true, true, true, true, true, false, false, false, false, false, false, false, false, false, false, false, false, false, false, false, false, false, false, false, false, false, false, false, false, false, false, false, false, false, false, false, false, false, false, false, false]
abbrev b81_ : Array Bool := #[true, true, true, true, true, true, true, true, true, true, true, true, true, false, false, true, false, false, false, false, false, false, false, false, false, false, false, false, false, false, false, false, false, false, false, false, false, false, false, false, false, false, false, false, false, false, false, false, false]
abbrev b82_ : Array Bool := #[true, true, true, true, true, true, true, true, true, true, true, true, true, false, false, true, true, false, false, false, false, false, false, false, false, false, false, false, false, false, false, false, false, false, false, false, false, false, false, false, false, false, false, false, false, false, false, false, false]
abbrev b83_ : Array Bool := #[true, true, true, true, true, true, true, true, true, true, true, true, true, false, false, true, true, true, false, false, false, false, false, false, false, false, false, false, false, false, false, false, false, false, false, false, false, false, false, false, false, false, false, false, false, false, false, false, false]
abbrev b84_ : Array Bool := #[true, true, true, true, true, true, true, true, true, true, true, true, true, true, false, false, false, false, false, false, false, false, false, false, false, false, false, false, false, false, false, false, false, false, false, false, false, false, false, false, false, false, false, false, false, false, false, false, false]
abbrev b85_ : Array Bool := #[true, true, true, true, true, true, true, true, true, true, true, true, true, true, false, true, true, true, false, false, false, false, false, false, false, false, false, false, false, false, false, false, false, false, false, false, false, false, false, false, false, false, false, false, false, false, false, false, false]
abbrev b86_ : Array Bool := #[true, true, true, true, true, true, true, true, true, true, true, true, true, true, false, true, true, true, true, false, false, false, false, false, false, false, false, false, false, false, false, false, false, false, false, false, false, false, false, false, false, false, false, false, false, false, false, false, false]
abbrev b87_ : Array Bool := #[true, true, true, true, true, true, true, true, true, true, true, true, true, true, true, false, false, false, false, false, false, false, false, false, false, false, false, false, false, false, false, false, false, false, false, false, false, false, false, false, false, false, false, false, false, false, false, false, false]
abbrev b88_ : Array Bool := #[true, true, true, true, true, true, true, true, true, true, true, true, true, true, true, true, false, false, false, false, false, false, false, false, false, false, false, false, false, false, false, false, false, false, false, false, false, false, false, false, false, false, false, false, false, false, false, false, false]
abbrev b89_ : Array Bool := #[true, true, true, true, true, true, true, true, true, true, true, true, true, true, true, true, true, false, false, false, false, false, false, false, false, false, false, false, false, false, false, false, false, false, false, false, false, false, false, false, false, false, false, false, false, false, false, false, false]
abbrev b90_ : Array Bool := #[true, true, true, true, true, true, true, true, true, true, true, true, true, true, true, true, true, true, false, false, false, false, false, false, false, false, false, false, false, false, false, false, false, false, false, false, false, false, false, false, false, false, false, false, false, false, false, false, false]
abbrev b91_ : Array Bool := #[true, true, true, true, true, true, true, true, true, true, true, true, true, true, true, true, true, true, true, false, false, false, false, false, false, false, false, false, false, false, false, false, false, false, false, false, false, false, false, false, false, false, false, false, false, false, false, false, false]
abbrev b92_ : Array Bool := #[true, true, true, true, true, true, true, true, true, true, true, true, true, true, true, true, true, true, true, true, false, false, false, false, false, false, false, false, false, false, false, false, false, false, false, false, false, false, false, false, false, false, false, false, false, false, false, false, false]
abbrev b93_ : Array Bool := #[true, true, true, true, true, true, true, true, true, true, true, true, true, true, true, true, true, true, true, true, true, false, false, false, false, false, false, false, false, false, false, false, false, false, false, false, false, false, false, false, false, false, false, false, false, false, false, false, false]
abbrev b94_ : Array Bool := #[true, true, true, true, true, true, true, true, true, true, true, true, true, true, true, true, true, true, true, true, true, true, false, false, false, false, false, false, false, false, false, false, false, false, false, false, false, false, false, false, false, false, false, false, false, false, false, false, false]
abbrev b95_ : Array Bool := #[true, true, true, true, true, true, true, true, true, true, true, true, true, true, true, true, true, true, true, true, true, true, true, false, false, false, false, false, false, false, false, false, false, false, false, false, false, false, false, false, false, false, false, false, false, false, false, false, false]
abbrev b96_ : Array Bool := #[true, true, true, true, true, true, true, true, true, true, true, true, true, true, true, true, true, true, true, true, true, true, true, true, false, false, false, false, false, false, false, false, false, false, false, false, false, false, false, false, false, false, false, false, false, false, false, false, false]
abbrev b97_ : Array Bool := #[true, true, true, true, true, true, true, true, true, true, true, true, true, true, true, true, true, true, true, true, true, true, true, true, true, false, false, false, false, false, false, false, false, false, false, false, false, false, false, false, false, false, false, false, false, false, false, false, false]
abbrev b98_ : Array Bool := #[true, true, true, true, true, true, true, true, true, true, true, true, true, true, true, true, true, true, true, true, true, true, true, true, true, true, false, false, false, false, false, false, false, false, false, false, false, false, false, false, false, false, false, false, false, false, false, false, false]
abbrev b99_ : Array Bool := #[true, true, true, true, true, true, true, true, true, true, true, true, true, true, true, true, true, true, true, true, true, true, true, true, true, true, false, false, true, false, false, false, false, false, false, false, false, false, false, false, false, false, false, false, false, false, false, false, false]
abbrev b100_ : Array Bool := #[true, true, true, true, true, true, true, true, true, true, true, true, true, true, true, true, true, true, true, true, true, true, true, true, true, true, false, false, true, true, false, false, false, false, false, false, false, false, false, false, false, false, false, false, false, false, false, false, false]
abbrev b101_ : Array Bool := #[true, true, true, true, true, true, true, true, true, true, true, true, true, true, true, true, true, true, true, true, true, true, true, true, true, true, false, false, true, true, true, false, false, false, false, false, false, false, false, false, false, false, false, false, false, false, false, false, false]
abbrev b102_ : Array Bool := #[true, true, true, true, true, true, true, true, true, true, true, true, true, true, true, true, true, true, true, true, true, true, true, true, true, true, true, false, false, false, false, false, false, false, false, false, false, false, false, false, false, false, false, false, false, false, false, false, false]
abbrev b103_ : Array Bool := #[true, true, true, true, true, true, true, true, true, true, true, true, true, true, true, true, true, true, true, true, true, true, true, true, true, true, true, false, true, true, true, false, false, false, false, false, false, false, false, false, false, false, false, false, false, false, false, false, false]
abbrev b104_ : Array Bool := #[true, true, true, true, true, true, true, true, true, true, true, true, true, true, true, true, true, true, true, true, true, true, true, true, true, true, true, false, true, true, true, true, false, false, false, false, false, false, false, false, false, false, false, false, false, false, false, false, false]
abbrev b105_ : Array Bool := #[true, true, true, true, true, true, true, true, true, true, true, true, true, true, true, true, true, true, true, true, true, true, true, true, true, true, true, true, false, false, false, false, false, false, false, false, false, false, false, false, false, false, false, false, false, false, false, false, false]
abbrev b106_ : Array Bool := #[true, true, true, true, true, true, true, true, true, true, true, true, true, true, true, true, true, true, true, true, true, true, true, true, true, true, true, true, true, false, false, false, false, false, false, false, false, false, false, false, false, false, false, false, false, false, false, false, false]
abbrev b107_ : Array Bool := #[true, true, true, true, true, true, true, true, true, true, true, true, true, true, true, true, true, true, true, true, true, true, true, true, true, true, true, true, true, true, false, false, false, false, false, false, false, false, false, false, false, false, false, false, false, false, false, false, false]
abbrev b108_ : Array Bool := #[true, true, true, true, true, true, true, true, true, true, true, true, true, true, true, true, true, true, true, true, true, true, true, true, true, true, true, true, true, true, true, false, false, false, false, false, false, false, false, false, false, false, false, false, false, false, false, false, false]
abbrev b109_ : Array Bool := #[true, true, true, true, true, true, true, true, true, true, true, true, true, true, true, true, true, true, true, true, true, true, true, true, true, true, true, true, true, true, true, true, false, false, false, false, false, false, false, false, false, false, false, false, false, false, false, false, false]
abbrev b110_ : Array Bool := #[true, true, true, true, true, true, true, true, true, true, true, true, true, true, true, true, true, true, true, true, true, true, true, true, true, true, true, true, true, true, true, true, true, false, false, false, false, false, false, false, false, false, false, false, false, false, false, false, false]
abbrev b111_ : Array Bool := #[true, true, true, true, true, true, true, true, true, true, true, true, true, true, true, true, true, true, true, true, true, true, true, true, true, true, true, true, true, true, true, true, true, true, false, false, false, false, false, false, false, false, false, false, false, false, false, false, false]
abbrev b112_ : Array Bool := #[true, true, true, true, true, true, true, true, true, true, true, true, true, true, true, true, true, true, true, true, true, true, true, true, true, true, true, true, true, true, true, true, true, true, true, false, false, false, false, false, false, false, false, false, false, false, false, false, false]
abbrev b113_ : Array Bool := #[true, true, true, true, true, true, true, true, true, true, true, true, true, true, true, true, true, true, true, true, true, true, true, true, true, true, true, true, true, true, true, true, true, true, true, true, false, false, false, false, false, false, false, false, false, false, false, false, false]
abbrev b114_ : Array Bool := #[true, true, true, true, true, true, true, true, true, true, true, true, true, true, true, true, true, true, true, true, true, true, true, true, true, true, true, true, true, true, true, true, true, true, true, true, true, false, false, false, false, false, false, false, false, false, false, false, false]
abbrev b115_ : Array Bool := #[true, true, true, true, true, true, true, true, true, true, true, true, true, true, true, true, true, true, true, true, true, true, true, true, true, true, true, true, true, true, true, true, true, true, true, true, true, true, false, false, false, false, false, false, false, false, false, false, false]
abbrev b116_ : Array Bool := #[true, true, true, true, true, true, true, true, true, true, true, true, true, true, true, true, true, true, true, true, true, true, true, true, true, true, true, true, true, true, true, true, true, true, true, true, true, true, true, false, false, false, false, false, false, false, false, false, false]
abbrev b117_ : Array Bool := #[true, true, true, true, true, true, true, true, true, true, true, true, true, true, true, true, true, true, true, true, true, true, true, true, true, true, true, true, true, true, true, true, true, true, true, true, true, true, true, false, true, false, false, false, false, false, false, false, false]
abbrev b118_ : Array Bool := #[true, true, true, true, true, true, true, true, true, true, true, true, true, true, true, true, true, true, true, true, true, true, true, true, true, true, true, true, true, true, true, true, true, true, true, true, true, true, true, false, true, true, false, false, false, false, false, false, false]
abbrev b119_ : Array Bool := #[true, true, true, true, true, true, true, true, true, true, true, true, true, true, true, true, true, true, true, true, true, true, true, true, true, true, true, true, true, true, true, true, true, true, true, true, true, true, true, false, true, true, true, false, false, false, false, false, false]
abbrev b120_ : Array Bool := #[true, true, true, true, true, true, true, true, true, true, true, true, true, true, true, true, true, true, true, true, true, true, true, true, true, true, true, true, true, true, true, true, true, true, true, true, true, true, true, false, true, true, true, true, false, false, false, false, false]
abbrev b121_ : Array Bool := #[true, true, true, true, true, true, true, true, true, true, true, true, true, true, true, true, true, true, true, true, true, true, true, true, true, true, true, true, true, true, true, true, true, true, true, true, true, true, true, true, false, false, false, false, false, false, false, false, false]
abbrev b122_ : Array Bool := #[true, true, true, true, true, true, true, true, true, true, true, true, true, true, true, true, true, true, true, true, true, true, true, true, true, true, true, true, true, true, true, true, true, true, true, true, true, true, true, true, true, false, false, false, false, false, false, false, false]
abbrev b123_ : Array Bool := #[true, true, true, true, true, true, true, true, true, true, true, true, true, true, true, true, true, true, true, true, true, true, true, true, true, true, true, true, true, true, true, true, true, true, true, true, true, true, true, true, true, true, false, false, false, false, false, false, false]
abbrev b124_ : Array Bool := #[true, true, true, true, true, true, true, true, true, true, true, true, true, true, true, true, true, true, true, true, true, true, true, true, true, true, true, true, true, true, true, true, true, true, true, true, true, true, true, true, true, true, true, false, false, false, false, false, false]
abbrev b125_ : Array Bool := #[true, true, true, true, true, true, true, true, true, true, true, true, true, true, true, true, true, true, true, true, true, true, true, true, true, true, true, true, true, true, true, true, true, true, true, true, true, true, true, true, true, true, true, true, false, false, false, false, false]
abbrev b126_ : Array Bool := #[true, true, true, true, true, true, true, true, true, true, true, true, true, true, true, true, true, true, true, true, true, true, true, true, true, true, true, true, true, true, true, true, true, true, true, true, true, true, true, true, true, true, true, true, true, false, false, false, false]
abbrev b127_ : Array Bool := #[true, true, true, true, true, true, true, true, true, true, true, true, true, true, true, true, true, true, true, true, true, true, true, true, true, true, true, true, true, true, true, true, true, true, true, true, true, true, true, true, true, true, true, true, true, true, false, false, false]
abbrev b128_ : Array Bool := #[true, true, true, true, true, true, true, true, true, true, true, true, true, true, true, true, true, true, true, true, true, true, true, true, true, true, true, true, true, true, true, true, true, true, true, true, true, true, true, true, true, true, true, true, true, true, true, false, false]
abbrev b129_ : Array Bool := #[true, true, true, true, true, true, true, true, true, true, true, true, true, true, true, true, true, true, true, true, true, true, true, true, true, true, true, true, true, true, true, true, true, true, true, true, true, true, true, true, true, true, true, true, true, true, true, true, false]
abbrev b130_ : Array Bool := #[true, true, true, true, true, true, true, true, true, true, true, true, true, true, true, true, true, true, true, true, true, true, true, true, true, true, true, true, true, true, true, true, true, true, true, true, true, true, true, true, true, true, true, true, true, true, true, true, true]
end Go.Proofs.YthaifibhflfpkaaX
section
namespace Go.Proofs.Ythaifibhflfpkaa.Q
open Go.RowKit Go.Proofs.YthaifibhflfpkaaW.PrintWords Go.Proofs.YthaifibhflfpkaaW.PrintLast Go.Proofs.YthaifibhflfpkaaW.PrintMore Go.Proofs.YthaifibhflfpkaaX
attribute [local go_sem] max2_int min2_int max_two min_two max_three min_three max_four min_four   -- for this text's walks alone
set_option linter.unusedVariables false
set_option linter.unusedSimpArgs false
mutual
def r06_Train.l0 : Nat → List (S85) → List ByteArray → Option (List ByteArray)
 | 0, _, _ => none
 | k + 1, x3, x4 => if (x4.length : Int) < 32 then (r06_Train.l1 k x3 x4 (-1) 0) else (some x4)
def r06_Train.l1 : Nat → List (S85) → List ByteArray → Int → Int → Option (List ByteArray)
 | 0, _, _, _, _ => none
 | k + 1, x3, x4, x5, x6 => if x6 < (x3.length : Int) then (if 0 ≤ x6 then (if ((rd_T85 x3 x6).f1) ≥ 2 then (if x5 < 0 then (r06_Train.l1 k x3 x4 x6 (wrap64 (x6 + 1))) else ((r06_worth.f ((rd_T85 x3 x6).f0) ((rd_T85 x3 x6).f1)).bind fun t391 => (if 0 ≤ x5 then (if x5 < (x3.length : Int) then ((r06_worth.f ((rd_T85 x3 x5).f0) ((rd_T85 x3 x5).f1)).bind fun t393 => (if t391 > t393 then (r06_Train.l1 k x3 x4 x6 (wrap64 (x6 + 1))) else ((r06_worth.f ((rd_T85 x3 x6).f0) ((rd_T85 x3 x6).f1)).bind fun t395 => ((r06_worth.f ((rd_T85 x3 x5).f0) ((rd_T85 x3 x5).f1)).bind fun t397 => (if t395 = t397 then (if (Op.bytesLess (((rd_T85 x3 x6).f0).toList) (((rd_T85 x3 x5).f0).toList)) = true then (r06_Train.l1 k x3 x4 x6 (wrap64 (x6 + 1))) else (r06_Train.l1 k x3 x4 x5 (wrap64 (x6 + 1)))) else (r06_Train.l1 k x3 x4 x5 (wrap64 (x6 + 1)))))))) else (none)) else (none)))) else (r06_Train.l1 k x3 x4 x5 (wrap64 (x6 + 1)))) else (none)) else (if x5 < 0 then (some x4) else (if 0 ≤ x5 then (if x5 < (x3.length : Int) then (if x4.length < 8796093022208 then (r06_Train.l0 k (x3.set (x5 : Int).toNat (⟨(rd_T85 x3 x5).f0, 0⟩ : S85)) (x4 ++ [(rd_T85 x3 x5).f0])) else (none)) else (none)) else (none)))
end
def r06_Train.f (k : Nat) (l0 : List (List Int)) : Option (List ByteArray) := (r06_Pieces.f k l0).bind fun t381 => (r06_Train.l0 k t381 ([] : List ByteArray))
def r06_Train.T8 : Bool × List (List Nat × List Nat) := (true, [([], []), ([], []), ([0, 1], [0, 1]), ([2], [2]), ([3], [3]), ([4], [4]), ([5], [5]), ([6], [6]), ([7, 6], [6, 7]), ([8, 6, 6], [6, 8]), ([9], [9]), ([9], [9]), ([10, 11, 9], [9, 10, 11]), ([12, 9], [9, 12]), ([13, 9, 9], [9, 13]), ([9], [9]), ([9], [9]), ([15, 16, 9], [9, 15, 16]), ([17, 9], [9, 17]), ([18, 14, 9], [9, 18]), ([14, 19, 9], [9, 14, 19]), ([9, 20, 6], [6, 9, 20]), ([21, 19, 6], [6, 21]), ([22], [22]), ([22], [22]), ([23, 24, 22], [22, 23, 24]), ([25, 22], [22, 25]), ([26, 22, 22], [22, 26]), ([22], [22]), ([22], [22]), ([28, 29, 22], [22, 28, 29]), ([30, 22], [22, 30]), ([31, 27, 22], [22, 31]), ([27, 32, 22], [22, 27, 32]), ([33, 32, 22], [22, 33]), ([34], [34]), ([34], [34]), ([35, 36, 34], [34, 35, 36]), ([37, 34], [34, 37]), ([38, 34], [34, 38]), ([34], [34]), ([34], [34]), ([40, 41, 34], [34, 40, 41]), ([42, 34], [34, 42]), ([43, 34], [34, 43]), ([39, 44, 34], [34, 39, 44]), ([34, 45, 22], [22, 34, 45]), ([22, 46, 6], [6, 22, 46]), ([6, 47], [6, 47])])
def r06_Train.B8 : List Nat := [0, 0, 3, 7, 15, 31, 63, 127, 255, 511, 1023, 1023, 4095, 8191, 16383, 1023, 1023, 99327, 230399, 524287, 1048575, 2097151, 4194303, 8388607, 8388607, 33554431, 67108863, 134217727, 8388607, 8388607, 813694975, 1887436799, 4294967295, 8589934591, 17179869183, 34359738367, 34359738367, 137438953471, 274877906943, 549755813887, 34359738367, 34359738367, 3332894621695, 7730941132799, 16527034155007, 35184372088831, 70368744177663, 140737488355327, 281474976710655]
theorem r06_Train.tab8 : rtab .any (opsOf Try.f26 8) = r06_Train.T8 := by kernel_rfl
theorem r06_Train.bits8 : waitsOk r06_Train.T8.2 r06_Train.B8 = true := by kernel_rfl
set_option maxHeartbeats 8000000 in
set_option maxRecDepth 100000 in
theorem r06_Train.calls (k : Nat) (A0 : Option Addr) (c0 : Nat) (l0 : List (List Int)) (r : List ByteArray) (w : World) (hr0 : Kd.C (Kd.slice 5 (Kd.int .u8)) w A0 l0.length l0) (hc0 : l0.length ≤ c0) (h : r06_Train.f k l0 = some r) :
  Calls Try.prog 26 #[.slice A0 l0.length c0] w fun e w' => ∃ v0_ : Value, e = .returned (v0_) ∧ Kd.R Kd.string 9 w' w.heap.size (fun _ => True) v0_ r ∧ Below w.heap.size w w' := by
 have hu85 := Try.underlying85
 have HR0 := aM hr0
 have HC0 := aM hc0
 clear hr0 hc0
 have HB := aM (Below.refl w.heap.size w)
 have H : ((r06_Pieces.f k l0).bind fun t381 => (r06_Train.l0 k t381 ([] : List ByteArray))) = some r := h
 clear h
 replace H := Option.bind_eq_some_iff.mp H
 obtain ⟨t381, A20, H⟩ := H
 replace H : (r06_Train.l0 k t381 ([] : List ByteArray)) = some r := H
 have A2 := aM A20
 clear A20
 have H' := aM H
 clear H
 go_enter Try.func26, Try.ntmps26
 go_wp2_with (first | ((with_reducible refine gate_callee (f := 52) rfl ?_); refine goesL_ (some 8) rfl rfl Try.func52 (by kernel_rfl) rfl #[.slice A0 l0.length c0] rfl (by (try simp only [List.map_toArray, List.map_cons, List.map_nil]); first | done | rfl | (simp only [List.length_drop, List.length_take]; rfl)) ?_; (with_reducible refine (r06_Pieces.calls k _ _ l0 t381 _ ?side1 ?side2 A2.out).mono ?_); (case side1 => exact xC HR0.out); (case side2 => exact HC0.out); rintro e w3 ⟨v382, rfl, ho0, hb⟩; refine ⟨_, rfl, ?_⟩; have n0_ := aM (Kd.R_lower ho0 (below_size (xB HB.out))); have n1_ := aM (below_step (xB HB.out) hb); clear HB; have HO383 := n0_; have HB := n1_; clear n0_ n1_; (try clear hb); (try clear hb2); (try clear hk); (try clear hi); (try clear ho0)))
 go_loopg [4] k (fun kq v4 w' => ∃ (x3_1 : List (S85)) (x4_1 : List ByteArray), Aside0 (r06_Train.l0 kq x3_1 x4_1 = some r) ∧ Aside0 (kq ≤ k) ∧ Aside0 (Kd.R k85 85 w' w.heap.size (fun _ => True) v382 x3_1) ∧ Aside0 (Kd.R Kd.string 9 w' w.heap.size (fun _ => True) v4 x4_1) ∧ Aside0 (Below w.heap.size w w'))
 case atStart => exact ⟨(t381), (([] : List ByteArray)), H', ⟨Nat.le_refl _⟩, ⟨by (with_reducible repeat (first | apply Kd.R_alloc | apply Kd.R_drewN | apply Kd.R_drew)); exact HO383.out⟩, ⟨by first | exact Kd.R_nil _ _ _ _ _ | exact Kd.N_nil _ _ _ _ _ | exact Kd.V_nil _ _ _ _ _ | exact Kd.Q_nil _ _ _ _ _ | exact Kd.S_nil _ _ _ _ _⟩, ⟨xB HB.out⟩⟩
 case round =>
  clear H'
  try clear c2
  try clear p2
  obtain ⟨x3_1, x4_1, HA, HK1, HO_3, HO_4, HB⟩ := hrel
  cases gk with
  | zero => exact absurd HA.out (by simp [r06_Train.l0])
  | succ k1 =>
   have H := HA.out
   clear HA
   simp only [r06_Train.l0] at H
   by_cases c4 : (x4_1.length : Int) < 32
   ·
    rw [if_pos c4] at H
    have c4b0 : decide ((x4_1.length : Int) < 32) = true := decide_eq_true c4
    have c4b1 : decide (x4_1.length < 32) = true := decide_eq_true (by omega)
    clear c4
    have H' := aM H
    clear H
    obtain ⟨Ao5, co5, eo5⟩ := Kd.R_slice HO_4.out
    subst eo5
    go_wp2
    go_loopg [5, 6] k1 (fun kq v5 v6 w' => ∃ (x5_2 : Int) (x6_2 : Int), v5 = .int .i64 x5_2 ∧ v6 = .int .i64 x6_2 ∧ Aside0 (r06_Train.l1 kq x3_1 x4_1 x5_2 x6_2 = some r) ∧ Aside0 (kq ≤ k1) ∧ Aside0 (Kd.R k85 85 w' w.heap.size (fun _ => True) v382 x3_1) ∧ Aside0 (Kd.R Kd.string 9 w' w.heap.size (fun _ => True) (.slice Ao5 x4_1.length co5) x4_1) ∧ Aside0 (Below w.heap.size w w'))
    case atStart => exact ⟨((-1)), (0), (by first | rfl | (simp; done) | (simp [*]; done)), (by first | rfl | (simp; done) | (simp [*]; done)), H', ⟨Nat.le_refl _⟩, ⟨by (with_reducible repeat (first | apply Kd.R_alloc | apply Kd.R_drewN | apply Kd.R_drew)); exact HO_3.out⟩, ⟨by (with_reducible repeat (first | apply Kd.R_alloc | apply Kd.R_drewN | apply Kd.R_drew)); exact HO_4.out⟩, ⟨xB HB.out⟩⟩
    case round =>
     clear H'
     try clear c2
     try clear p2
     try clear c4
     try clear c4b0
     try clear c4b1
     try clear c5
     try clear p2
     obtain ⟨x5_2, x6_2, rfl, rfl, HA, HK2, HO_3, HO_4, HB⟩ := hrel
     cases gk with
     | zero => exact absurd HA.out (by simp [r06_Train.l1])
     | succ k2 =>
      have H := HA.out
      clear HA
      simp only [r06_Train.l1] at H
      by_cases c6 : x6_2 < (x3_1.length : Int)
      ·
       rw [if_pos c6] at H
       have c6b0 : decide (x6_2 < (x3_1.length : Int)) = true := decide_eq_true c6
       clear c6
       by_cases c7 : 0 ≤ x6_2
       ·
        rw [if_pos c7] at H
        have c7b0 : decide (0 ≤ x6_2) = true := decide_eq_true c7
        clear c7
        by_cases c8 : ((rd_T85 x3_1 x6_2).f1) ≥ 2
        ·
         rw [if_pos c8] at H
         have c8b0 : decide (2 ≤ ((rd_T85 x3_1 x6_2).f1)) = true := decide_eq_true c8
         clear c8
         by_cases c9 : x5_2 < 0
         ·
          rw [if_pos c9] at H
          have c9b0 : decide (x5_2 < 0) = true := decide_eq_true c9
          clear c9
          have H' := aM H
          clear H
          obtain ⟨Ao10, co10, eo10⟩ := Kd.R_slice HO_3.out
          subst eo10
          try go_wp2
          have n0_ := aM (Kd.R_drew HO_3.out)
          have n1_ := aM (Kd.R_drew HO_4.out)
          have n2_ := aM (below_drew1 HB.out)
          clear HO_3
          clear HO_4
          clear HB
          have HO_3 := n0_
          have HO_4 := n1_
          have HB := n2_
          clear n0_ n1_ n2_
          have p389 : 0 ≤ (x6_2 : Int) := of_decide_eq_true (by first | (with_reducible assumption) | assumption)
          have q389 : x6_2 < (x3_1.length : Int) := of_decide_eq_true (by first | (with_reducible assumption) | assumption)
          obtain ⟨ad389, e389, hx389_0, hx389_1⟩ := at_T85 (Kd.R_reads' HO_3.out).2.2 x6_2 p389 q389
          cases e389
          replace p389 := eq_true p389
          replace q389 := eq_true q389
          refine start_ (n := 49) (S := fun w' => w'.cell? (ad389.add ((x6_2).toNat * 2)) = some (.string ((rd_T85 x3_1 x6_2).f0)) ∧ w'.cell? ⟨(ad389.add ((x6_2).toNat * 2)).block, (ad389.add ((x6_2).toNat * 2)).off + 1, none⟩ = some (.int .i64 ((rd_T85 x3_1 x6_2).f1))) (ds := []) b67_ (by kernel_rfl) rfl rfl ⟨hx389_0, hx389_1⟩ (fun hHeld => ?_); refine with_tabW r06_Train.tab8 r06_Train.bits8 (fun HT_ HW_ => ?_)
          generalize wr.drew = w11 at HO_3 HO_4 HB hx389_0 hx389_1 hHeld ⊢
          refine pure_ (i := 0) (N := some 18) (v := ?_) (a' := ?_) b68_ rfl rfl (any_of HT_.out (by kernel_rfl)) (fun _ _ _ h => h) (Or.inl ⟨by rfl, ?_⟩) ?_ ?_; rotate_left; (· intro w'; go_simp; with_reducible rfl); rotate_left; (· simp only [xQ, i64_w, i32_w]; rfl)
          refine pure_ (i := 1) (N := some 19) (v := ?_) (a' := ?_) b69_ rfl rfl (any_of HT_.out (by kernel_rfl)) (fun _ _ _ h => h) (Or.inl ⟨by rfl, ?_⟩) ?_ ?_; rotate_left; (· intro w'; go_simp; with_reducible rfl); rotate_left; (· simp only [xQ, i64_w, i32_w]; rfl)
          refine pure_ (i := 2) (N := some 20) (v := ?_) (a' := ?_) b70_ rfl rfl (any_of HT_.out (by kernel_rfl)) (fun _ _ _ h => h) (Or.inl ⟨by rfl, ?_⟩) ?_ ?_; rotate_left; (· intro w'; go_simp; with_reducible rfl); rotate_left; (· simp only [xQ, i64_w, i32_w]; rfl)
          refine pure_ (i := 3) (N := some 21) (v := ?_) (a' := ?_) b71_ rfl rfl (any_of HT_.out (by kernel_rfl)) (fun _ _ _ h => h) (Or.inl ⟨by rfl, ?_⟩) ?_ ?_; rotate_left; (· intro w'; go_simp; with_reducible rfl); rotate_left; (· simp only [xQ, i64_w, i32_w]; rfl)
          refine take_ (i := 4) (N := some 22) (v := ?_) (a' := ?_) b72_ rfl rfl (take_ofW HT_.out HW_.out (by kernel_rfl)) (fun _ _ _ h => h) (Or.inl ⟨by rfl, ?_⟩) hHeld ?_ ?_; rotate_left; (· rintro w' ⟨s0, s1⟩; go_simp; with_reducible rfl); rotate_left; (· simp only [xQ, i64_w, i32_w]; rfl)
          refine pure_ (i := 5) (N := some 23) (v := ?_) (a' := ?_) b73_ rfl rfl (any_of HT_.out (by kernel_rfl)) (fun _ _ _ h => h) (Or.inl ⟨by rfl, ?_⟩) ?_ ?_; rotate_left; (· intro w'; go_simp; with_reducible rfl); rotate_left; (· simp only [xQ, i64_w, i32_w]; rfl)
          refine pure_ (i := 6) (N := some 24) (v := ?_) (a' := ?_) b74_ rfl rfl (any_of HT_.out (by kernel_rfl)) (fun _ _ _ h => h) (Or.inl ⟨by rfl, ?_⟩) ?_ ?_; rotate_left; (· intro w'; go_simp; with_reducible rfl); rotate_left; (· simp only [xQ, i64_w, i32_w]; rfl)
          refine pure_ (i := 7) (N := some 25) (v := ?_) (a' := ?_) b75_ rfl rfl (any_of HT_.out (by kernel_rfl)) (fun _ _ _ h => h) (Or.inl ⟨by rfl, ?_⟩) ?_ ?_; rotate_left; (· intro w'; go_simp; with_reducible rfl); rotate_left; (· simp only [xQ, i64_w, i32_w]; rfl)
          refine pure_ (i := 8) (N := some 26) (v := ?_) (a' := ?_) b76_ rfl rfl (any_of HT_.out (by kernel_rfl)) (fun _ _ _ h => h) (Or.inl ⟨by rfl, ?_⟩) ?_ ?_; rotate_left; (· intro w'; go_simp; with_reducible rfl); rotate_left; (· simp only [xQ, i64_w, i32_w]; rfl)
          refine pure_ (i := 9) (N := some 27) (v := ?_) (a' := ?_) b77_ rfl rfl (any_of HT_.out (by kernel_rfl)) (fun _ _ _ h => h) (Or.inl ⟨by rfl, ?_⟩) ?_ ?_; rotate_left; (· intro w'; go_simp; with_reducible rfl); rotate_left; (· simp only [xQ, i64_w, i32_w]; rfl)
          refine pure_ (i := 10) (N := some 28) (v := undef) (a' := ?_) b78_ rfl rfl (any_of HT_.out (by kernel_rfl)) (fun _ _ _ h => h) (Or.inr ⟨by rfl, rfl⟩) ?_ ?_
          rotate_left
          ·
           simp only [xQ, i64_w, i32_w]
           rfl
          refine pure_ (i := 11) (N := some 29) (v := undef) (a' := ?_) b79_ rfl rfl (any_of HT_.out (by kernel_rfl)) (fun _ _ _ h => h) (Or.inr ⟨by rfl, rfl⟩) ?_ ?_
          rotate_left
          ·
           simp only [xQ, i64_w, i32_w]
           rfl
          refine pure_ (i := 12) (N := some 30) (v := undef) (a' := ?_) b80_ rfl rfl (any_of HT_.out (by kernel_rfl)) (fun _ _ _ h => h) (Or.inr ⟨by rfl, rfl⟩) ?_ ?_
          rotate_left
          ·
           simp only [xQ, i64_w, i32_w]
           rfl
          refine pure_ (i := 13) (N := some 31) (v := undef) (a' := ?_) b84_ rfl rfl (any_of HT_.out (by kernel_rfl)) (fun _ _ _ h => h) (Or.inr ⟨by rfl, rfl⟩) ?_ ?_
          rotate_left
          ·
           simp only [xQ, i64_w, i32_w]
           rfl
          refine pure_ (i := 14) (N := some 32) (v := undef) (a' := ?_) b87_ rfl rfl (any_of HT_.out (by kernel_rfl)) (fun _ _ _ h => h) (Or.inr ⟨by rfl, rfl⟩) ?_ ?_
          rotate_left
          ·
           simp only [xQ, i64_w, i32_w]
           rfl
          refine pure_ (i := 15) (N := some 33) (v := undef) (a' := ?_) b88_ rfl rfl (any_of HT_.out (by kernel_rfl)) (fun _ _ _ h => h) (Or.inr ⟨by rfl, rfl⟩) ?_ ?_
          rotate_left
          ·
           simp only [xQ, i64_w, i32_w]
           rfl
          refine pure_ (i := 16) (N := some 34) (v := undef) (a' := ?_) b89_ rfl rfl (any_of HT_.out (by kernel_rfl)) (fun _ _ _ h => h) (Or.inr ⟨by rfl, rfl⟩) ?_ ?_
          rotate_left
          ·
           simp only [xQ, i64_w, i32_w]
           rfl
          refine pure_ (i := 17) (N := some 35) (v := undef) (a' := ?_) b90_ rfl rfl (any_of HT_.out (by kernel_rfl)) (fun _ _ _ h => h) (Or.inr ⟨by rfl, rfl⟩) ?_ ?_
          rotate_left
          ·
           simp only [xQ, i64_w, i32_w]
           rfl
          refine pure_ (i := 18) (N := some 36) (v := undef) (a' := ?_) b91_ rfl rfl (any_of HT_.out (by kernel_rfl)) (fun _ _ _ h => h) (Or.inr ⟨by rfl, rfl⟩) ?_ ?_
          rotate_left
          ·
           simp only [xQ, i64_w, i32_w]
           rfl
          refine pure_ (i := 19) (N := some 37) (v := undef) (a' := ?_) b92_ rfl rfl (any_of HT_.out (by kernel_rfl)) (fun _ _ _ h => h) (Or.inr ⟨by rfl, rfl⟩) ?_ ?_
          rotate_left
          ·
           simp only [xQ, i64_w, i32_w]
           rfl
          refine pure_ (i := 20) (N := some 38) (v := undef) (a' := ?_) b93_ rfl rfl (any_of HT_.out (by kernel_rfl)) (fun _ _ _ h => h) (Or.inr ⟨by rfl, rfl⟩) ?_ ?_
          rotate_left
          ·
           simp only [xQ, i64_w, i32_w]
           rfl
          refine pure_ (i := 21) (N := some 39) (v := ?_) (a' := ?_) b94_ rfl rfl (any_of HT_.out (by kernel_rfl)) (fun _ _ _ h => h) (Or.inl ⟨by rfl, ?_⟩) ?_ ?_; rotate_left; (· intro w'; go_simp; with_reducible rfl); rotate_left; (· simp only [xQ, i64_w, i32_w]; rfl)
          refine pure_ (i := 22) (N := some 40) (v := ?_) (a' := ?_) b95_ rfl rfl (any_of HT_.out (by kernel_rfl)) (fun _ _ _ h => h) (Or.inl ⟨by rfl, ?_⟩) ?_ ?_; rotate_left; (· intro w'; go_simp; with_reducible rfl); rotate_left; (· simp only [xQ, i64_w, i32_w]; rfl)
          refine pure_ (i := 23) (N := some 41) (v := undef) (a' := ?_) b96_ rfl rfl (any_of HT_.out (by kernel_rfl)) (fun _ _ _ h => h) (Or.inr ⟨by rfl, rfl⟩) ?_ ?_
          rotate_left
          ·
           simp only [xQ, i64_w, i32_w]
           rfl
          refine pure_ (i := 24) (N := some 42) (v := undef) (a' := ?_) b97_ rfl rfl (any_of HT_.out (by kernel_rfl)) (fun _ _ _ h => h) (Or.inr ⟨by rfl, rfl⟩) ?_ ?_
          rotate_left
          ·
           simp only [xQ, i64_w, i32_w]
           rfl
          refine pure_ (i := 25) (N := some 43) (v := undef) (a' := ?_) b98_ rfl rfl (any_of HT_.out (by kernel_rfl)) (fun _ _ _ h => h) (Or.inr ⟨by rfl, rfl⟩) ?_ ?_
          rotate_left
          ·
           simp only [xQ, i64_w, i32_w]
           rfl
          refine pure_ (i := 26) (N := some 44) (v := undef) (a' := ?_) b102_ rfl rfl (any_of HT_.out (by kernel_rfl)) (fun _ _ _ h => h) (Or.inr ⟨by rfl, rfl⟩) ?_ ?_
          rotate_left
          ·
           simp only [xQ, i64_w, i32_w]
           rfl
          refine pure_ (i := 27) (N := some 45) (v := undef) (a' := ?_) b105_ rfl rfl (any_of HT_.out (by kernel_rfl)) (fun _ _ _ h => h) (Or.inr ⟨by rfl, rfl⟩) ?_ ?_
          rotate_left
          ·
           simp only [xQ, i64_w, i32_w]
           rfl
          refine pure_ (i := 28) (N := some 46) (v := undef) (a' := ?_) b106_ rfl rfl (any_of HT_.out (by kernel_rfl)) (fun _ _ _ h => h) (Or.inr ⟨by rfl, rfl⟩) ?_ ?_
          rotate_left
          ·
           simp only [xQ, i64_w, i32_w]
           rfl
          refine pure_ (i := 29) (N := some 47) (v := undef) (a' := ?_) b107_ rfl rfl (any_of HT_.out (by kernel_rfl)) (fun _ _ _ h => h) (Or.inr ⟨by rfl, rfl⟩) ?_ ?_
          rotate_left
          ·
           simp only [xQ, i64_w, i32_w]
           rfl
          refine pure_ (i := 30) (N := some 48) (v := undef) (a' := ?_) b108_ rfl rfl (any_of HT_.out (by kernel_rfl)) (fun _ _ _ h => h) (Or.inr ⟨by rfl, rfl⟩) ?_ ?_
          rotate_left
          ·
           simp only [xQ, i64_w, i32_w]
           rfl
          refine pure_ (i := 31) (N := some 49) (v := undef) (a' := ?_) b109_ rfl rfl (any_of HT_.out (by kernel_rfl)) (fun _ _ _ h => h) (Or.inr ⟨by rfl, rfl⟩) ?_ ?_
          rotate_left
          ·
           simp only [xQ, i64_w, i32_w]
           rfl
          refine pure_ (i := 32) (N := some 50) (v := undef) (a' := ?_) b110_ rfl rfl (any_of HT_.out (by kernel_rfl)) (fun _ _ _ h => h) (Or.inr ⟨by rfl, rfl⟩) ?_ ?_
          rotate_left
          ·
           simp only [xQ, i64_w, i32_w]
           rfl
          refine pure_ (i := 33) (N := some 51) (v := undef) (a' := ?_) b111_ rfl rfl (any_of HT_.out (by kernel_rfl)) (fun _ _ _ h => h) (Or.inr ⟨by rfl, rfl⟩) ?_ ?_
          rotate_left
          ·
           simp only [xQ, i64_w, i32_w]
           rfl
          refine pure_ (i := 34) (N := some 52) (v := undef) (a' := ?_) b112_ rfl rfl (any_of HT_.out (by kernel_rfl)) (fun _ _ _ h => h) (Or.inr ⟨by rfl, rfl⟩) ?_ ?_
          rotate_left
          ·
           simp only [xQ, i64_w, i32_w]
           rfl
          refine pure_ (i := 35) (N := some 53) (v := undef) (a' := ?_) b113_ rfl rfl (any_of HT_.out (by kernel_rfl)) (fun _ _ _ h => h) (Or.inr ⟨by rfl, rfl⟩) ?_ ?_
          rotate_left
          ·
           simp only [xQ, i64_w, i32_w]
           rfl
          refine pure_ (i := 36) (N := some 54) (v := undef) (a' := ?_) b114_ rfl rfl (any_of HT_.out (by kernel_rfl)) (fun _ _ _ h => h) (Or.inr ⟨by rfl, rfl⟩) ?_ ?_
          rotate_left
          ·
           simp only [xQ, i64_w, i32_w]
           rfl
          refine pure_ (i := 37) (N := some 55) (v := undef) (a' := ?_) b115_ rfl rfl (any_of HT_.out (by kernel_rfl)) (fun _ _ _ h => h) (Or.inr ⟨by rfl, rfl⟩) ?_ ?_
          rotate_left
          ·
           simp only [xQ, i64_w, i32_w]
           rfl
          refine pure_ (i := 38) (N := some 56) (v := undef) (a' := ?_) b116_ rfl rfl (any_of HT_.out (by kernel_rfl)) (fun _ _ _ h => h) (Or.inr ⟨by rfl, rfl⟩) ?_ ?_
          rotate_left
          ·
           simp only [xQ, i64_w, i32_w]
           rfl
          refine pure_ (i := 39) (N := some 57) (v := undef) (a' := ?_) b121_ rfl rfl (any_of HT_.out (by kernel_rfl)) (fun _ _ _ h => h) (Or.inr ⟨by rfl, rfl⟩) ?_ ?_
          rotate_left
          ·
           simp only [xQ, i64_w, i32_w]
           rfl
          refine pure_ (i := 40) (N := some 58) (v := undef) (a' := ?_) b122_ rfl rfl (any_of HT_.out (by kernel_rfl)) (fun _ _ _ h => h) (Or.inr ⟨by rfl, rfl⟩) ?_ ?_
          rotate_left
          ·
           simp only [xQ, i64_w, i32_w]
           rfl
          refine pure_ (i := 41) (N := some 59) (v := undef) (a' := ?_) b123_ rfl rfl (any_of HT_.out (by kernel_rfl)) (fun _ _ _ h => h) (Or.inr ⟨by rfl, rfl⟩) ?_ ?_
          rotate_left
          ·
           simp only [xQ, i64_w, i32_w]
           rfl
          refine pure_ (i := 42) (N := some 60) (v := undef) (a' := ?_) b124_ rfl rfl (any_of HT_.out (by kernel_rfl)) (fun _ _ _ h => h) (Or.inr ⟨by rfl, rfl⟩) ?_ ?_
          rotate_left
          ·
           simp only [xQ, i64_w, i32_w]
           rfl
          refine pure_ (i := 43) (N := some 61) (v := undef) (a' := ?_) b125_ rfl rfl (any_of HT_.out (by kernel_rfl)) (fun _ _ _ h => h) (Or.inr ⟨by rfl, rfl⟩) ?_ ?_
          rotate_left
          ·
           simp only [xQ, i64_w, i32_w]
           rfl
          refine pure_ (i := 44) (N := some 62) (v := undef) (a' := ?_) b126_ rfl rfl (any_of HT_.out (by kernel_rfl)) (fun _ _ _ h => h) (Or.inr ⟨by rfl, rfl⟩) ?_ ?_
          rotate_left
          ·
           simp only [xQ, i64_w, i32_w]
           rfl
          refine pure_ (i := 45) (N := some 63) (v := undef) (a' := ?_) b127_ rfl rfl (any_of HT_.out (by kernel_rfl)) (fun _ _ _ h => h) (Or.inr ⟨by rfl, rfl⟩) ?_ ?_
          rotate_left
          ·
           simp only [xQ, i64_w, i32_w]
           rfl
          refine pure_ (i := 46) (N := some 64) (v := undef) (a' := ?_) b128_ rfl rfl (any_of HT_.out (by kernel_rfl)) (fun _ _ _ h => h) (Or.inr ⟨by rfl, rfl⟩) ?_ ?_
          rotate_left
          ·
           simp only [xQ, i64_w, i32_w]
           rfl
          refine pure_ (i := 47) (N := some 65) (v := ?_) (a' := ?_) b129_ rfl rfl (any_of HT_.out (by kernel_rfl)) (fun _ _ _ h => h) (Or.inl ⟨by rfl, ?_⟩) ?_ ?_; rotate_left; (· intro w'; go_simp; with_reducible rfl); rotate_left; (· simp only [xQ, i64_w, i32_w]; rfl)
          refine pure_ (i := 48) (N := some 66) (v := ?_) (a' := ?_) b130_ rfl rfl (any_of HT_.out (by kernel_rfl)) (fun _ _ _ h => h) (Or.inl ⟨by rfl, ?_⟩) ?_ ?_; rotate_left; (· intro w'; go_simp; with_reducible rfl); rotate_left; (· simp only [xQ, i64_w, i32_w]; rfl)
          refine done_ (done_of HT_.out (by kernel_rfl)) ?_
          try go_wp2
          go_roundg k2
          case measure => have := HK1.out; have := HK2.out; omega
          case rel => exact ⟨(x6_2), (wrap64 (x6_2 + 1)), (by first | rfl | (simp; done) | (simp [*]; done)), (by first | rfl | (simp; done) | (simp [*]; done)), H', ⟨by have := HK1.out; have := HK2.out; omega⟩, ⟨by (with_reducible repeat (first | apply Kd.R_alloc | apply Kd.R_drewN | apply Kd.R_drew)); exact HO_3.out⟩, ⟨by (with_reducible repeat (first | apply Kd.R_alloc | apply Kd.R_drewN | apply Kd.R_drew)); exact HO_4.out⟩, ⟨xB HB.out⟩⟩
         ·
          rw [if_neg c9] at H
          have c9b0 : decide (x5_2 < 0) = false := decide_eq_false c9
          clear c9
          replace H := Option.bind_eq_some_iff.mp H
          obtain ⟨t391, A120, H⟩ := H
          replace H : (if 0 ≤ x5_2 then (if x5_2 < (x3_1.length : Int) then ((r06_worth.f ((rd_T85 x3_1 x5_2).f0) ((rd_T85 x3_1 x5_2).f1)).bind fun t393 => (if t391 > t393 then (r06_Train.l1 k2 x3_1 x4_1 x6_2 (wrap64 (x6_2 + 1))) else ((r06_worth.f ((rd_T85 x3_1 x6_2).f0) ((rd_T85 x3_1 x6_2).f1)).bind fun t395 => ((r06_worth.f ((rd_T85 x3_1 x5_2).f0) ((rd_T85 x3_1 x5_2).f1)).bind fun t397 => (if t395 = t397 then (if (Op.bytesLess (((rd_T85 x3_1 x6_2).f0).toList) (((rd_T85 x3_1 x5_2).f0).toList)) = true then (r06_Train.l1 k2 x3_1 x4_1 x6_2 (wrap64 (x6_2 + 1))) else (r06_Train.l1 k2 x3_1 x4_1 x5_2 (wrap64 (x6_2 + 1)))) else (r06_Train.l1 k2 x3_1 x4_1 x5_2 (wrap64 (x6_2 + 1)))))))) else (none)) else (none)) = some r := H
          have A12 := aM A120
          clear A120
          by_cases c13 : 0 ≤ x5_2
          ·
           rw [if_pos c13] at H
           have c13b0 : decide (0 ≤ x5_2) = true := decide_eq_true c13
           clear c13
           by_cases c14 : x5_2 < (x3_1.length : Int)
           ·
            rw [if_pos c14] at H
            have c14b0 : decide (x5_2 < (x3_1.length : Int)) = true := decide_eq_true c14
            clear c14
            replace H := Option.bind_eq_some_iff.mp H
            obtain ⟨t393, A150, H⟩ := H
            replace H : (if t391 > t393 then (r06_Train.l1 k2 x3_1 x4_1 x6_2 (wrap64 (x6_2 + 1))) else ((r06_worth.f ((rd_T85 x3_1 x6_2).f0) ((rd_T85 x3_1 x6_2).f1)).bind fun t395 => ((r06_worth.f ((rd_T85 x3_1 x5_2).f0) ((rd_T85 x3_1 x5_2).f1)).bind fun t397 => (if t395 = t397 then (if (Op.bytesLess (((rd_T85 x3_1 x6_2).f0).toList) (((rd_T85 x3_1 x5_2).f0).toList)) = true then (r06_Train.l1 k2 x3_1 x4_1 x6_2 (wrap64 (x6_2 + 1))) else (r06_Train.l1 k2 x3_1 x4_1 x5_2 (wrap64 (x6_2 + 1)))) else (r06_Train.l1 k2 x3_1 x4_1 x5_2 (wrap64 (x6_2 + 1))))))) = some r := H
            have A15 := aM A150
            clear A150
            by_cases c16 : t391 > t393
            ·
             rw [if_pos c16] at H
             have c16b0 : decide (t393 < t391) = true := decide_eq_true c16
             clear c16
             have H' := aM H
             clear H
             obtain ⟨Ao17, co17, eo17⟩ := Kd.R_slice HO_3.out
             subst eo17
             try go_wp2
             have n0_ := aM (Kd.R_drew HO_3.out)
             have n1_ := aM (Kd.R_drew HO_4.out)
             have n2_ := aM (below_drew1 HB.out)
             clear HO_3
             clear HO_4
             clear HB
             have HO_3 := n0_
             have HO_4 := n1_
             have HB := n2_
             clear n0_ n1_ n2_
             have p389 : 0 ≤ (x6_2 : Int) := of_decide_eq_true (by first | (with_reducible assumption) | assumption)
             have q389 : x6_2 < (x3_1.length : Int) := of_decide_eq_true (by first | (with_reducible assumption) | assumption)
             obtain ⟨ad389, e389, hx389_0, hx389_1⟩ := at_T85 (Kd.R_reads' HO_3.out).2.2 x6_2 p389 q389
             cases e389
             replace p389 := eq_true p389
             replace q389 := eq_true q389
             have p390 : 0 ≤ (x6_2 : Int) := of_decide_eq_true (by first | (with_reducible assumption) | assumption)
             have q390 : x6_2 < (x3_1.length : Int) := of_decide_eq_true (by first | (with_reducible assumption) | assumption)
             obtain ⟨ad390, e390, hx390_0, hx390_1⟩ := at_T85 (Kd.R_reads' HO_3.out).2.2 x6_2 p390 q390
             obtain rfl : ad389 = ad390 := (by injection e390)
             replace p390 := eq_true p390
             replace q390 := eq_true q390
             have p392 : 0 ≤ (x5_2 : Int) := of_decide_eq_true (by first | (with_reducible assumption) | assumption)
             have q392 : x5_2 < (x3_1.length : Int) := of_decide_eq_true (by first | (with_reducible assumption) | assumption)
             obtain ⟨ad392, e392, hx392_0, hx392_1⟩ := at_T85 (Kd.R_reads' HO_3.out).2.2 x5_2 p392 q392
             obtain rfl : ad389 = ad392 := (by injection e392)
             replace p392 := eq_true p392
             replace q392 := eq_true q392
             refine start_ (n := 49) (S := fun w' => w'.cell? (ad389.add ((x6_2).toNat * 2)) = some (.string ((rd_T85 x3_1 x6_2).f0)) ∧ w'.cell? ⟨(ad389.add ((x6_2).toNat * 2)).block, (ad389.add ((x6_2).toNat * 2)).off + 1, none⟩ = some (.int .i64 ((rd_T85 x3_1 x6_2).f1)) ∧ w'.cell? (ad389.add ((x6_2).toNat * 2)) = some (.string ((rd_T85 x3_1 x6_2).f0)) ∧ w'.cell? ⟨(ad389.add ((x6_2).toNat * 2)).block, (ad389.add ((x6_2).toNat * 2)).off + 1, none⟩ = some (.int .i64 ((rd_T85 x3_1 x6_2).f1)) ∧ w'.cell? (ad389.add ((x5_2).toNat * 2)) = some (.string ((rd_T85 x3_1 x5_2).f0)) ∧ w'.cell? ⟨(ad389.add ((x5_2).toNat * 2)).block, (ad389.add ((x5_2).toNat * 2)).off + 1, none⟩ = some (.int .i64 ((rd_T85 x3_1 x5_2).f1))) (ds := []) b67_ (by kernel_rfl) rfl rfl ⟨hx389_0, hx389_1, hx390_0, hx390_1, hx392_0, hx392_1⟩ (fun hHeld => ?_); refine with_tabW r06_Train.tab8 r06_Train.bits8 (fun HT_ HW_ => ?_)
             generalize wr.drew = w18 at HO_3 HO_4 HB hx389_0 hx389_1 hx390_0 hx390_1 hx392_0 hx392_1 hHeld ⊢
             refine pure_ (i := 0) (N := some 18) (v := ?_) (a' := ?_) b68_ rfl rfl (any_of HT_.out (by kernel_rfl)) (fun _ _ _ h => h) (Or.inl ⟨by rfl, ?_⟩) ?_ ?_; rotate_left; (· intro w'; go_simp; with_reducible rfl); rotate_left; (· simp only [xQ, i64_w, i32_w]; rfl)
             refine pure_ (i := 1) (N := some 19) (v := ?_) (a' := ?_) b69_ rfl rfl (any_of HT_.out (by kernel_rfl)) (fun _ _ _ h => h) (Or.inl ⟨by rfl, ?_⟩) ?_ ?_; rotate_left; (· intro w'; go_simp; with_reducible rfl); rotate_left; (· simp only [xQ, i64_w, i32_w]; rfl)
             refine pure_ (i := 2) (N := some 20) (v := ?_) (a' := ?_) b70_ rfl rfl (any_of HT_.out (by kernel_rfl)) (fun _ _ _ h => h) (Or.inl ⟨by rfl, ?_⟩) ?_ ?_; rotate_left; (· intro w'; go_simp; with_reducible rfl); rotate_left; (· simp only [xQ, i64_w, i32_w]; rfl)
             refine pure_ (i := 3) (N := some 21) (v := ?_) (a' := ?_) b71_ rfl rfl (any_of HT_.out (by kernel_rfl)) (fun _ _ _ h => h) (Or.inl ⟨by rfl, ?_⟩) ?_ ?_; rotate_left; (· intro w'; go_simp; with_reducible rfl); rotate_left; (· simp only [xQ, i64_w, i32_w]; rfl)
             refine take_ (i := 4) (N := some 22) (v := ?_) (a' := ?_) b72_ rfl rfl (take_ofW HT_.out HW_.out (by kernel_rfl)) (fun _ _ _ h => h) (Or.inl ⟨by rfl, ?_⟩) hHeld ?_ ?_; rotate_left; (· rintro w' ⟨s0, s1, s2, s3, s4, s5⟩; go_simp; with_reducible rfl); rotate_left; (· simp only [xQ, i64_w, i32_w]; rfl)
             refine pure_ (i := 5) (N := some 23) (v := ?_) (a' := ?_) b73_ rfl rfl (any_of HT_.out (by kernel_rfl)) (fun _ _ _ h => h) (Or.inl ⟨by rfl, ?_⟩) ?_ ?_; rotate_left; (· intro w'; go_simp; with_reducible rfl); rotate_left; (· simp only [xQ, i64_w, i32_w]; rfl)
             refine pure_ (i := 6) (N := some 24) (v := ?_) (a' := ?_) b74_ rfl rfl (any_of HT_.out (by kernel_rfl)) (fun _ _ _ h => h) (Or.inl ⟨by rfl, ?_⟩) ?_ ?_; rotate_left; (· intro w'; go_simp; with_reducible rfl); rotate_left; (· simp only [xQ, i64_w, i32_w]; rfl)
             refine pure_ (i := 7) (N := some 25) (v := ?_) (a' := ?_) b75_ rfl rfl (any_of HT_.out (by kernel_rfl)) (fun _ _ _ h => h) (Or.inl ⟨by rfl, ?_⟩) ?_ ?_; rotate_left; (· intro w'; go_simp; with_reducible rfl); rotate_left; (· simp only [xQ, i64_w, i32_w]; rfl)
             refine pure_ (i := 8) (N := some 26) (v := ?_) (a' := ?_) b76_ rfl rfl (any_of HT_.out (by kernel_rfl)) (fun _ _ _ h => h) (Or.inl ⟨by rfl, ?_⟩) ?_ ?_; rotate_left; (· intro w'; go_simp; with_reducible rfl); rotate_left; (· simp only [xQ, i64_w, i32_w]; rfl)
             refine pure_ (i := 9) (N := some 27) (v := ?_) (a' := ?_) b77_ rfl rfl (any_of HT_.out (by kernel_rfl)) (fun _ _ _ h => h) (Or.inl ⟨by rfl, ?_⟩) ?_ ?_; rotate_left; (· intro w'; go_simp; with_reducible rfl); rotate_left; (· simp only [xQ, i64_w, i32_w]; rfl)
             refine pure_ (i := 10) (N := some 28) (v := ?_) (a' := ?_) b78_ rfl rfl (any_of HT_.out (by kernel_rfl)) (fun _ _ _ h => h) (Or.inl ⟨by rfl, ?_⟩) ?_ ?_; rotate_left; (· intro w'; go_simp; with_reducible rfl); rotate_left; (· simp only [xQ, i64_w, i32_w]; rfl)
             refine pure_ (i := 11) (N := some 29) (v := ?_) (a' := ?_) b79_ rfl rfl (any_of HT_.out (by kernel_rfl)) (fun _ _ _ h => h) (Or.inl ⟨by rfl, ?_⟩) ?_ ?_; rotate_left; (· intro w'; go_simp; with_reducible rfl); rotate_left; (· simp only [xQ, i64_w, i32_w]; rfl)
             refine pure_ (i := 12) (N := some 30) (v := ?_) (a' := ?_) b80_ rfl rfl (any_of HT_.out (by kernel_rfl)) (fun _ _ _ h => h) (Or.inl ⟨by rfl, ?_⟩) ?_ ?_; rotate_left; (· intro w'; go_simp; with_reducible rfl); rotate_left; (· simp only [xQ, i64_w, i32_w]; rfl)
             refine pure_ (i := 15) (N := some 33) (v := ?_) (a' := ?_) b81_ rfl rfl (any_of HT_.out (by kernel_rfl)) (fun _ _ _ h => h) (Or.inl ⟨by rfl, ?_⟩) ?_ ?_; rotate_left; (· intro w'; go_simp; with_reducible rfl); rotate_left; (· simp only [xQ, i64_w, i32_w]; rfl)
             refine pure_ (i := 16) (N := some 34) (v := ?_) (a' := ?_) b82_ rfl rfl (any_of HT_.out (by kernel_rfl)) (fun _ _ _ h => h) (Or.inl ⟨by rfl, ?_⟩) ?_ ?_; rotate_left; (· intro w'; go_simp; with_reducible rfl); rotate_left; (· simp only [xQ, i64_w, i32_w]; rfl)
             refine pure_ (i := 17) (N := some 35) (v := ?_) (a' := ?_) b83_ rfl rfl (any_of HT_.out (by kernel_rfl)) (fun _ _ _ h => h) (Or.inl ⟨by rfl, ?_⟩) ?_ ?_; rotate_left; (· intro w'; go_simp; with_reducible rfl); rotate_left; (· simp only [xQ, i64_w, i32_w]; rfl)
             refine take_ (i := 13) (N := some 31) (v := ?_) (a' := ?_) b85_ rfl rfl (take_ofW HT_.out HW_.out (by kernel_rfl)) (fun _ _ _ h => h) (Or.inl ⟨by rfl, ?_⟩) hHeld ?_ ?_; rotate_left; (· rintro w' ⟨s0, s1, s2, s3, s4, s5⟩; go_simp; with_reducible rfl); rotate_left; (· simp only [xQ, i64_w, i32_w]; rfl)
             refine take_ (i := 18) (N := some 36) (v := ?_) (a' := ?_) b86_ rfl rfl (take_ofW HT_.out HW_.out (by kernel_rfl)) (fun _ _ _ h => h) (Or.inl ⟨by rfl, ?_⟩) hHeld ?_ ?_; rotate_left; (· rintro w' ⟨s0, s1, s2, s3, s4, s5⟩; go_simp; with_reducible rfl); rotate_left; (· simp only [xQ, i64_w, i32_w]; rfl)
             refine one_ (i := 14) (N := some 32) b91_ rfl rfl (one_of HT_.out (by kernel_rfl)) (by decide) (fun K hK => ?_)
             refine goes_ Try.func53 (by kernel_rfl) rfl #[.agg #[.string ((rd_T85 x3_1 x6_2).f0), .int .i64 ((rd_T85 x3_1 x6_2).f1)]] (by rfl) rfl rfl (by (try simp only [List.map_toArray, List.map_cons, List.map_nil]); first | done | rfl | (simp only [List.length_drop, List.length_take]; rfl)) ?_
             with_reducible refine (r06_worth.calls ((rd_T85 x3_1 x6_2).f0) ((rd_T85 x3_1 x6_2).f1) t391 _ A12.out).mono ?_
             rintro e w19 ⟨rfl, hb⟩
             have HS0_ := (hb.cell (World.block_lt_of_cell? _ _ (hHeld.1))).trans (hHeld.1)
             have HS1_ := (hb.cell (World.block_lt_of_cell? _ _ (hHeld.2.1))).trans (hHeld.2.1)
             have HS2_ := (hb.cell (World.block_lt_of_cell? _ _ (hHeld.2.2.1))).trans (hHeld.2.2.1)
             have HS3_ := (hb.cell (World.block_lt_of_cell? _ _ (hHeld.2.2.2.1))).trans (hHeld.2.2.2.1)
             have HS4_ := (hb.cell (World.block_lt_of_cell? _ _ (hHeld.2.2.2.2.1))).trans (hHeld.2.2.2.2.1)
             have HS5_ := (hb.cell (World.block_lt_of_cell? _ _ (hHeld.2.2.2.2.2))).trans (hHeld.2.2.2.2.2)
             refine ⟨_, rfl, ?_⟩
             have n0_ := aM (Kd.R_below (xR HO_3.out) hb)
             have n1_ := aM (Kd.R_below (xR HO_4.out) hb)
             have n2_ := aM (below_step (xB HB.out) hb)
             clear HO_3
             clear HO_4
             clear HB
             have HO_3 := n0_
             have HO_4 := n1_
             have HB := n2_
             clear n0_ n1_ n2_
             (try clear hb)
             (try clear hb2)
             (try clear hk)
             (try clear hi)
             refine hK.out _ _ ⟨HS0_, HS1_, HS2_, HS3_, HS4_, HS5_⟩ (fun hHeld => ?_)
             clear hK K
             refine norm_ (a' := ?_) ?_ ?_
             rotate_left
             ·
              show Act.put _ (some 32) _ = _
              simp only [xQ, i64_w, i32_w]
              rfl
             refine one_ (i := 19) (N := some 37) b92_ rfl rfl (one_of HT_.out (by kernel_rfl)) (by decide) (fun K hK => ?_)
             refine goes_ Try.func53 (by kernel_rfl) rfl #[.agg #[.string ((rd_T85 x3_1 x5_2).f0), .int .i64 ((rd_T85 x3_1 x5_2).f1)]] (by rfl) rfl rfl (by (try simp only [List.map_toArray, List.map_cons, List.map_nil]); first | done | rfl | (simp only [List.length_drop, List.length_take]; rfl)) ?_
             with_reducible refine (r06_worth.calls ((rd_T85 x3_1 x5_2).f0) ((rd_T85 x3_1 x5_2).f1) t393 _ A15.out).mono ?_
             rintro e w20 ⟨rfl, hb⟩
             have HS0_ := (hb.cell (World.block_lt_of_cell? _ _ (hHeld.1))).trans (hHeld.1)
             have HS1_ := (hb.cell (World.block_lt_of_cell? _ _ (hHeld.2.1))).trans (hHeld.2.1)
             have HS2_ := (hb.cell (World.block_lt_of_cell? _ _ (hHeld.2.2.1))).trans (hHeld.2.2.1)
             have HS3_ := (hb.cell (World.block_lt_of_cell? _ _ (hHeld.2.2.2.1))).trans (hHeld.2.2.2.1)
             have HS4_ := (hb.cell (World.block_lt_of_cell? _ _ (hHeld.2.2.2.2.1))).trans (hHeld.2.2.2.2.1)
             have HS5_ := (hb.cell (World.block_lt_of_cell? _ _ (hHeld.2.2.2.2.2))).trans (hHeld.2.2.2.2.2)
             refine ⟨_, rfl, ?_⟩
             have n0_ := aM (Kd.R_below (xR HO_3.out) hb)
             have n1_ := aM (Kd.R_below (xR HO_4.out) hb)
             have n2_ := aM (below_step (xB HB.out) hb)
             clear HO_3
             clear HO_4
             clear HB
             have HO_3 := n0_
             have HO_4 := n1_
             have HB := n2_
             clear n0_ n1_ n2_
             (try clear hb)
             (try clear hb2)
             (try clear hk)
             (try clear hi)
             refine hK.out _ _ ⟨HS0_, HS1_, HS2_, HS3_, HS4_, HS5_⟩ (fun hHeld => ?_)
             clear hK K
             refine norm_ (a' := ?_) ?_ ?_
             rotate_left
             ·
              show Act.put _ (some 37) _ = _
              simp only [xQ, i64_w, i32_w]
              rfl
             refine pure_ (i := 20) (N := some 38) (v := ?_) (a' := ?_) b93_ rfl rfl (any_of HT_.out (by kernel_rfl)) (fun _ _ _ h => h) (Or.inl ⟨by rfl, ?_⟩) ?_ ?_; rotate_left; (· intro w'; go_simp; with_reducible rfl); rotate_left; (· simp only [xQ, i64_w, i32_w]; rfl)
             refine pure_ (i := 21) (N := some 39) (v := ?_) (a' := ?_) b94_ rfl rfl (any_of HT_.out (by kernel_rfl)) (fun _ _ _ h => h) (Or.inl ⟨by rfl, ?_⟩) ?_ ?_; rotate_left; (· intro w'; go_simp; with_reducible rfl); rotate_left; (· simp only [xQ, i64_w, i32_w]; rfl)
             refine pure_ (i := 22) (N := some 40) (v := ?_) (a' := ?_) b95_ rfl rfl (any_of HT_.out (by kernel_rfl)) (fun _ _ _ h => h) (Or.inl ⟨by rfl, ?_⟩) ?_ ?_; rotate_left; (· intro w'; go_simp; with_reducible rfl); rotate_left; (· simp only [xQ, i64_w, i32_w]; rfl)
             refine pure_ (i := 23) (N := some 41) (v := undef) (a' := ?_) b96_ rfl rfl (any_of HT_.out (by kernel_rfl)) (fun _ _ _ h => h) (Or.inr ⟨by rfl, rfl⟩) ?_ ?_
             rotate_left
             ·
              simp only [xQ, i64_w, i32_w]
              rfl
             refine pure_ (i := 24) (N := some 42) (v := undef) (a' := ?_) b97_ rfl rfl (any_of HT_.out (by kernel_rfl)) (fun _ _ _ h => h) (Or.inr ⟨by rfl, rfl⟩) ?_ ?_
             rotate_left
             ·
              simp only [xQ, i64_w, i32_w]
              rfl
             refine pure_ (i := 25) (N := some 43) (v := undef) (a' := ?_) b98_ rfl rfl (any_of HT_.out (by kernel_rfl)) (fun _ _ _ h => h) (Or.inr ⟨by rfl, rfl⟩) ?_ ?_
             rotate_left
             ·
              simp only [xQ, i64_w, i32_w]
              rfl
             refine pure_ (i := 26) (N := some 44) (v := undef) (a' := ?_) b102_ rfl rfl (any_of HT_.out (by kernel_rfl)) (fun _ _ _ h => h) (Or.inr ⟨by rfl, rfl⟩) ?_ ?_
             rotate_left
             ·
              simp only [xQ, i64_w, i32_w]
              rfl
             refine pure_ (i := 27) (N := some 45) (v := undef) (a' := ?_) b105_ rfl rfl (any_of HT_.out (by kernel_rfl)) (fun _ _ _ h => h) (Or.inr ⟨by rfl, rfl⟩) ?_ ?_
             rotate_left
             ·
              simp only [xQ, i64_w, i32_w]
              rfl
             refine pure_ (i := 28) (N := some 46) (v := undef) (a' := ?_) b106_ rfl rfl (any_of HT_.out (by kernel_rfl)) (fun _ _ _ h => h) (Or.inr ⟨by rfl, rfl⟩) ?_ ?_
             rotate_left
             ·
              simp only [xQ, i64_w, i32_w]
              rfl
             refine pure_ (i := 29) (N := some 47) (v := undef) (a' := ?_) b107_ rfl rfl (any_of HT_.out (by kernel_rfl)) (fun _ _ _ h => h) (Or.inr ⟨by rfl, rfl⟩) ?_ ?_
             rotate_left
             ·
              simp only [xQ, i64_w, i32_w]
              rfl
             refine pure_ (i := 30) (N := some 48) (v := undef) (a' := ?_) b108_ rfl rfl (any_of HT_.out (by kernel_rfl)) (fun _ _ _ h => h) (Or.inr ⟨by rfl, rfl⟩) ?_ ?_
             rotate_left
             ·
              simp only [xQ, i64_w, i32_w]
              rfl
             refine pure_ (i := 31) (N := some 49) (v := undef) (a' := ?_) b109_ rfl rfl (any_of HT_.out (by kernel_rfl)) (fun _ _ _ h => h) (Or.inr ⟨by rfl, rfl⟩) ?_ ?_
             rotate_left
             ·
              simp only [xQ, i64_w, i32_w]
              rfl
             refine pure_ (i := 32) (N := some 50) (v := undef) (a' := ?_) b110_ rfl rfl (any_of HT_.out (by kernel_rfl)) (fun _ _ _ h => h) (Or.inr ⟨by rfl, rfl⟩) ?_ ?_
             rotate_left
             ·
              simp only [xQ, i64_w, i32_w]
              rfl
             refine pure_ (i := 33) (N := some 51) (v := undef) (a' := ?_) b111_ rfl rfl (any_of HT_.out (by kernel_rfl)) (fun _ _ _ h => h) (Or.inr ⟨by rfl, rfl⟩) ?_ ?_
             rotate_left
             ·
              simp only [xQ, i64_w, i32_w]
              rfl
             refine pure_ (i := 34) (N := some 52) (v := undef) (a' := ?_) b112_ rfl rfl (any_of HT_.out (by kernel_rfl)) (fun _ _ _ h => h) (Or.inr ⟨by rfl, rfl⟩) ?_ ?_
             rotate_left
             ·
              simp only [xQ, i64_w, i32_w]
              rfl
             refine pure_ (i := 35) (N := some 53) (v := undef) (a' := ?_) b113_ rfl rfl (any_of HT_.out (by kernel_rfl)) (fun _ _ _ h => h) (Or.inr ⟨by rfl, rfl⟩) ?_ ?_
             rotate_left
             ·
              simp only [xQ, i64_w, i32_w]
              rfl
             refine pure_ (i := 36) (N := some 54) (v := undef) (a' := ?_) b114_ rfl rfl (any_of HT_.out (by kernel_rfl)) (fun _ _ _ h => h) (Or.inr ⟨by rfl, rfl⟩) ?_ ?_
             rotate_left
             ·
              simp only [xQ, i64_w, i32_w]
              rfl
             refine pure_ (i := 37) (N := some 55) (v := undef) (a' := ?_) b115_ rfl rfl (any_of HT_.out (by kernel_rfl)) (fun _ _ _ h => h) (Or.inr ⟨by rfl, rfl⟩) ?_ ?_
             rotate_left
             ·
              simp only [xQ, i64_w, i32_w]
              rfl
             refine pure_ (i := 38) (N := some 56) (v := undef) (a' := ?_) b116_ rfl rfl (any_of HT_.out (by kernel_rfl)) (fun _ _ _ h => h) (Or.inr ⟨by rfl, rfl⟩) ?_ ?_
             rotate_left
             ·
              simp only [xQ, i64_w, i32_w]
              rfl
             refine pure_ (i := 39) (N := some 57) (v := undef) (a' := ?_) b121_ rfl rfl (any_of HT_.out (by kernel_rfl)) (fun _ _ _ h => h) (Or.inr ⟨by rfl, rfl⟩) ?_ ?_
             rotate_left
             ·
              simp only [xQ, i64_w, i32_w]
              rfl
             refine pure_ (i := 40) (N := some 58) (v := undef) (a' := ?_) b122_ rfl rfl (any_of HT_.out (by kernel_rfl)) (fun _ _ _ h => h) (Or.inr ⟨by rfl, rfl⟩) ?_ ?_
             rotate_left
             ·
              simp only [xQ, i64_w, i32_w]
              rfl
             refine pure_ (i := 41) (N := some 59) (v := undef) (a' := ?_) b123_ rfl rfl (any_of HT_.out (by kernel_rfl)) (fun _ _ _ h => h) (Or.inr ⟨by rfl, rfl⟩) ?_ ?_
             rotate_left
             ·
              simp only [xQ, i64_w, i32_w]
              rfl
             refine pure_ (i := 42) (N := some 60) (v := undef) (a' := ?_) b124_ rfl rfl (any_of HT_.out (by kernel_rfl)) (fun _ _ _ h => h) (Or.inr ⟨by rfl, rfl⟩) ?_ ?_
             rotate_left
             ·
              simp only [xQ, i64_w, i32_w]
              rfl
             refine pure_ (i := 43) (N := some 61) (v := undef) (a' := ?_) b125_ rfl rfl (any_of HT_.out (by kernel_rfl)) (fun _ _ _ h => h) (Or.inr ⟨by rfl, rfl⟩) ?_ ?_
             rotate_left
             ·
              simp only [xQ, i64_w, i32_w]
              rfl
             refine pure_ (i := 44) (N := some 62) (v := undef) (a' := ?_) b126_ rfl rfl (any_of HT_.out (by kernel_rfl)) (fun _ _ _ h => h) (Or.inr ⟨by rfl, rfl⟩) ?_ ?_
             rotate_left
             ·
              simp only [xQ, i64_w, i32_w]
              rfl
             refine pure_ (i := 45) (N := some 63) (v := undef) (a' := ?_) b127_ rfl rfl (any_of HT_.out (by kernel_rfl)) (fun _ _ _ h => h) (Or.inr ⟨by rfl, rfl⟩) ?_ ?_
             rotate_left
             ·
              simp only [xQ, i64_w, i32_w]
              rfl
             refine pure_ (i := 46) (N := some 64) (v := undef) (a' := ?_) b128_ rfl rfl (any_of HT_.out (by kernel_rfl)) (fun _ _ _ h => h) (Or.inr ⟨by rfl, rfl⟩) ?_ ?_
             rotate_left
             ·
              simp only [xQ, i64_w, i32_w]
              rfl
             refine pure_ (i := 47) (N := some 65) (v := ?_) (a' := ?_) b129_ rfl rfl (any_of HT_.out (by kernel_rfl)) (fun _ _ _ h => h) (Or.inl ⟨by rfl, ?_⟩) ?_ ?_; rotate_left; (· intro w'; go_simp; with_reducible rfl); rotate_left; (· simp only [xQ, i64_w, i32_w]; rfl)
             refine pure_ (i := 48) (N := some 66) (v := ?_) (a' := ?_) b130_ rfl rfl (any_of HT_.out (by kernel_rfl)) (fun _ _ _ h => h) (Or.inl ⟨by rfl, ?_⟩) ?_ ?_; rotate_left; (· intro w'; go_simp; with_reducible rfl); rotate_left; (· simp only [xQ, i64_w, i32_w]; rfl)
             refine done_ (done_of HT_.out (by kernel_rfl)) ?_
             try go_wp2
             go_roundg k2
             case measure => have := HK1.out; have := HK2.out; omega
             case rel => exact ⟨(x6_2), (wrap64 (x6_2 + 1)), (by first | rfl | (simp; done) | (simp [*]; done)), (by first | rfl | (simp; done) | (simp [*]; done)), H', ⟨by have := HK1.out; have := HK2.out; omega⟩, ⟨by (with_reducible repeat (first | apply Kd.R_alloc | apply Kd.R_drewN | apply Kd.R_drew)); exact HO_3.out⟩, ⟨by (with_reducible repeat (first | apply Kd.R_alloc | apply Kd.R_drewN | apply Kd.R_drew)); exact HO_4.out⟩, ⟨xB HB.out⟩⟩
            ·
             rw [if_neg c16] at H
             have c16b0 : decide (t393 < t391) = false := decide_eq_false c16
             clear c16
             replace H := Option.bind_eq_some_iff.mp H
             obtain ⟨t395, A210, H⟩ := H
             replace H : ((r06_worth.f ((rd_T85 x3_1 x5_2).f0) ((rd_T85 x3_1 x5_2).f1)).bind fun t397 => (if t395 = t397 then (if (Op.bytesLess (((rd_T85 x3_1 x6_2).f0).toList) (((rd_T85 x3_1 x5_2).f0).toList)) = true then (r06_Train.l1 k2 x3_1 x4_1 x6_2 (wrap64 (x6_2 + 1))) else (r06_Train.l1 k2 x3_1 x4_1 x5_2 (wrap64 (x6_2 + 1)))) else (r06_Train.l1 k2 x3_1 x4_1 x5_2 (wrap64 (x6_2 + 1))))) = some r := H
             have A21 := aM A210
             clear A210
             replace H := Option.bind_eq_some_iff.mp H
             obtain ⟨t397, A220, H⟩ := H
             replace H : (if t395 = t397 then (if (Op.bytesLess (((rd_T85 x3_1 x6_2).f0).toList) (((rd_T85 x3_1 x5_2).f0).toList)) = true then (r06_Train.l1 k2 x3_1 x4_1 x6_2 (wrap64 (x6_2 + 1))) else (r06_Train.l1 k2 x3_1 x4_1 x5_2 (wrap64 (x6_2 + 1)))) else (r06_Train.l1 k2 x3_1 x4_1 x5_2 (wrap64 (x6_2 + 1)))) = some r := H
             have A22 := aM A220
             clear A220
             by_cases c23 : t395 = t397
             ·
              rw [if_pos c23] at H
              have c23b0 : (t395 == t397) = true := beq_iff_eq.mpr c23
              have c23b1 : (t395 != t397) = false := bne_eq_false_iff_eq.mpr c23
              clear c23
              by_cases c24 : (Op.bytesLess (((rd_T85 x3_1 x6_2).f0).toList) (((rd_T85 x3_1 x5_2).f0).toList)) = true
              ·
               rw [if_pos c24] at H
               have c24b0 : (Op.bytesLess (((rd_T85 x3_1 x6_2).f0).toList) (((rd_T85 x3_1 x5_2).f0).toList)) = true := c24
               clear c24
               have H' := aM H
               clear H
               obtain ⟨Ao25, co25, eo25⟩ := Kd.R_slice HO_3.out
               subst eo25
               try go_wp2
               have n0_ := aM (Kd.R_drew HO_3.out)
               have n1_ := aM (Kd.R_drew HO_4.out)
               have n2_ := aM (below_drew1 HB.out)
               clear HO_3
               clear HO_4
               clear HB
               have HO_3 := n0_
               have HO_4 := n1_
               have HB := n2_
               clear n0_ n1_ n2_
               have p389 : 0 ≤ (x6_2 : Int) := of_decide_eq_true (by first | (with_reducible assumption) | assumption)
               have q389 : x6_2 < (x3_1.length : Int) := of_decide_eq_true (by first | (with_reducible assumption) | assumption)
               obtain ⟨ad389, e389, hx389_0, hx389_1⟩ := at_T85 (Kd.R_reads' HO_3.out).2.2 x6_2 p389 q389
               cases e389
               replace p389 := eq_true p389
               replace q389 := eq_true q389
               have p390 : 0 ≤ (x6_2 : Int) := of_decide_eq_true (by first | (with_reducible assumption) | assumption)
               have q390 : x6_2 < (x3_1.length : Int) := of_decide_eq_true (by first | (with_reducible assumption) | assumption)
               obtain ⟨ad390, e390, hx390_0, hx390_1⟩ := at_T85 (Kd.R_reads' HO_3.out).2.2 x6_2 p390 q390
               obtain rfl : ad389 = ad390 := (by injection e390)
               replace p390 := eq_true p390
               replace q390 := eq_true q390
               have p392 : 0 ≤ (x5_2 : Int) := of_decide_eq_true (by first | (with_reducible assumption) | assumption)
               have q392 : x5_2 < (x3_1.length : Int) := of_decide_eq_true (by first | (with_reducible assumption) | assumption)
               obtain ⟨ad392, e392, hx392_0, hx392_1⟩ := at_T85 (Kd.R_reads' HO_3.out).2.2 x5_2 p392 q392
               obtain rfl : ad389 = ad392 := (by injection e392)
               replace p392 := eq_true p392
               replace q392 := eq_true q392
               have p394 : 0 ≤ (x6_2 : Int) := of_decide_eq_true (by first | (with_reducible assumption) | assumption)
               have q394 : x6_2 < (x3_1.length : Int) := of_decide_eq_true (by first | (with_reducible assumption) | assumption)
               obtain ⟨ad394, e394, hx394_0, hx394_1⟩ := at_T85 (Kd.R_reads' HO_3.out).2.2 x6_2 p394 q394
               obtain rfl : ad389 = ad394 := (by injection e394)
               replace p394 := eq_true p394
               replace q394 := eq_true q394
               have p396 : 0 ≤ (x5_2 : Int) := of_decide_eq_true (by first | (with_reducible assumption) | assumption)
               have q396 : x5_2 < (x3_1.length : Int) := of_decide_eq_true (by first | (with_reducible assumption) | assumption)
               obtain ⟨ad396, e396, hx396_0, hx396_1⟩ := at_T85 (Kd.R_reads' HO_3.out).2.2 x5_2 p396 q396
               obtain rfl : ad389 = ad396 := (by injection e396)
               replace p396 := eq_true p396
               replace q396 := eq_true q396
               have p398 : 0 ≤ (x6_2 : Int) := of_decide_eq_true (by first | (with_reducible assumption) | assumption)
               have q398 : x6_2 < (x3_1.length : Int) := of_decide_eq_true (by first | (with_reducible assumption) | assumption)
               obtain ⟨ad398, e398, hx398_0, hx398_1⟩ := at_T85 (Kd.R_reads' HO_3.out).2.2 x6_2 p398 q398
               obtain rfl : ad389 = ad398 := (by injection e398)
               replace p398 := eq_true p398
               replace q398 := eq_true q398
               have p399 : 0 ≤ (x5_2 : Int) := of_decide_eq_true (by first | (with_reducible assumption) | assumption)
               have q399 : x5_2 < (x3_1.length : Int) := of_decide_eq_true (by first | (with_reducible assumption) | assumption)
               obtain ⟨ad399, e399, hx399_0, hx399_1⟩ := at_T85 (Kd.R_reads' HO_3.out).2.2 x5_2 p399 q399
               obtain rfl : ad389 = ad399 := (by injection e399)
               replace p399 := eq_true p399
               replace q399 := eq_true q399
               refine start_ (n := 49) (S := fun w' => w'.cell? (ad389.add ((x6_2).toNat * 2)) = some (.string ((rd_T85 x3_1 x6_2).f0)) ∧ w'.cell? ⟨(ad389.add ((x6_2).toNat * 2)).block, (ad389.add ((x6_2).toNat * 2)).off + 1, none⟩ = some (.int .i64 ((rd_T85 x3_1 x6_2).f1)) ∧ w'.cell? (ad389.add ((x6_2).toNat * 2)) = some (.string ((rd_T85 x3_1 x6_2).f0)) ∧ w'.cell? ⟨(ad389.add ((x6_2).toNat * 2)).block, (ad389.add ((x6_2).toNat * 2)).off + 1, none⟩ = some (.int .i64 ((rd_T85 x3_1 x6_2).f1)) ∧ w'.cell? (ad389.add ((x5_2).toNat * 2)) = some (.string ((rd_T85 x3_1 x5_2).f0)) ∧ w'.cell? ⟨(ad389.add ((x5_2).toNat * 2)).block, (ad389.add ((x5_2).toNat * 2)).off + 1, none⟩ = some (.int .i64 ((rd_T85 x3_1 x5_2).f1)) ∧ w'.cell? (ad389.add ((x6_2).toNat * 2)) = some (.string ((rd_T85 x3_1 x6_2).f0)) ∧ w'.cell? ⟨(ad389.add ((x6_2).toNat * 2)).block, (ad389.add ((x6_2).toNat * 2)).off + 1, none⟩ = some (.int .i64 ((rd_T85 x3_1 x6_2).f1)) ∧ w'.cell? (ad389.add ((x5_2).toNat * 2)) = some (.string ((rd_T85 x3_1 x5_2).f0)) ∧ w'.cell? ⟨(ad389.add ((x5_2).toNat * 2)).block, (ad389.add ((x5_2).toNat * 2)).off + 1, none⟩ = some (.int .i64 ((rd_T85 x3_1 x5_2).f1)) ∧ w'.cell? (ad389.add ((x6_2).toNat * 2)) = some (.string ((rd_T85 x3_1 x6_2).f0)) ∧ w'.cell? ⟨(ad389.add ((x6_2).toNat * 2)).block, (ad389.add ((x6_2).toNat * 2)).off + 1, none⟩ = some (.int .i64 ((rd_T85 x3_1 x6_2).f1)) ∧ w'.cell? (ad389.add ((x5_2).toNat * 2)) = some (.string ((rd_T85 x3_1 x5_2).f0)) ∧ w'.cell? ⟨(ad389.add ((x5_2).toNat * 2)).block, (ad389.add ((x5_2).toNat * 2)).off + 1, none⟩ = some (.int .i64 ((rd_T85 x3_1 x5_2).f1))) (ds := []) b67_ (by kernel_rfl) rfl rfl ⟨hx389_0, hx389_1, hx390_0, hx390_1, hx392_0, hx392_1, hx394_0, hx394_1, hx396_0, hx396_1, hx398_0, hx398_1, hx399_0, hx399_1⟩ (fun hHeld => ?_); refine with_tabW r06_Train.tab8 r06_Train.bits8 (fun HT_ HW_ => ?_)
               generalize wr.drew = w26 at HO_3 HO_4 HB hx389_0 hx389_1 hx390_0 hx390_1 hx392_0 hx392_1 hx394_0 hx394_1 hx396_0 hx396_1 hx398_0 hx398_1 hx399_0 hx399_1 hHeld ⊢
               refine pure_ (i := 0) (N := some 18) (v := ?_) (a' := ?_) b68_ rfl rfl (any_of HT_.out (by kernel_rfl)) (fun _ _ _ h => h) (Or.inl ⟨by rfl, ?_⟩) ?_ ?_; rotate_left; (· intro w'; go_simp; with_reducible rfl); rotate_left; (· simp only [xQ, i64_w, i32_w]; rfl)
               refine pure_ (i := 1) (N := some 19) (v := ?_) (a' := ?_) b69_ rfl rfl (any_of HT_.out (by kernel_rfl)) (fun _ _ _ h => h) (Or.inl ⟨by rfl, ?_⟩) ?_ ?_; rotate_left; (· intro w'; go_simp; with_reducible rfl); rotate_left; (· simp only [xQ, i64_w, i32_w]; rfl)
               refine pure_ (i := 2) (N := some 20) (v := ?_) (a' := ?_) b70_ rfl rfl (any_of HT_.out (by kernel_rfl)) (fun _ _ _ h => h) (Or.inl ⟨by rfl, ?_⟩) ?_ ?_; rotate_left; (· intro w'; go_simp; with_reducible rfl); rotate_left; (· simp only [xQ, i64_w, i32_w]; rfl)
               refine pure_ (i := 3) (N := some 21) (v := ?_) (a' := ?_) b71_ rfl rfl (any_of HT_.out (by kernel_rfl)) (fun _ _ _ h => h) (Or.inl ⟨by rfl, ?_⟩) ?_ ?_; rotate_left; (· intro w'; go_simp; with_reducible rfl); rotate_left; (· simp only [xQ, i64_w, i32_w]; rfl)
               refine take_ (i := 4) (N := some 22) (v := ?_) (a' := ?_) b72_ rfl rfl (take_ofW HT_.out HW_.out (by kernel_rfl)) (fun _ _ _ h => h) (Or.inl ⟨by rfl, ?_⟩) hHeld ?_ ?_; rotate_left; (· rintro w' ⟨s0, s1, s2, s3, s4, s5, s6, s7, s8, s9, s10, s11, s12, s13⟩; go_simp; with_reducible rfl); rotate_left; (· simp only [xQ, i64_w, i32_w]; rfl)
               refine pure_ (i := 5) (N := some 23) (v := ?_) (a' := ?_) b73_ rfl rfl (any_of HT_.out (by kernel_rfl)) (fun _ _ _ h => h) (Or.inl ⟨by rfl, ?_⟩) ?_ ?_; rotate_left; (· intro w'; go_simp; with_reducible rfl); rotate_left; (· simp only [xQ, i64_w, i32_w]; rfl)
               refine pure_ (i := 6) (N := some 24) (v := ?_) (a' := ?_) b74_ rfl rfl (any_of HT_.out (by kernel_rfl)) (fun _ _ _ h => h) (Or.inl ⟨by rfl, ?_⟩) ?_ ?_; rotate_left; (· intro w'; go_simp; with_reducible rfl); rotate_left; (· simp only [xQ, i64_w, i32_w]; rfl)
               refine pure_ (i := 7) (N := some 25) (v := ?_) (a' := ?_) b75_ rfl rfl (any_of HT_.out (by kernel_rfl)) (fun _ _ _ h => h) (Or.inl ⟨by rfl, ?_⟩) ?_ ?_; rotate_left; (· intro w'; go_simp; with_reducible rfl); rotate_left; (· simp only [xQ, i64_w, i32_w]; rfl)
               refine pure_ (i := 8) (N := some 26) (v := ?_) (a' := ?_) b76_ rfl rfl (any_of HT_.out (by kernel_rfl)) (fun _ _ _ h => h) (Or.inl ⟨by rfl, ?_⟩) ?_ ?_; rotate_left; (· intro w'; go_simp; with_reducible rfl); rotate_left; (· simp only [xQ, i64_w, i32_w]; rfl)
               refine pure_ (i := 9) (N := some 27) (v := ?_) (a' := ?_) b77_ rfl rfl (any_of HT_.out (by kernel_rfl)) (fun _ _ _ h => h) (Or.inl ⟨by rfl, ?_⟩) ?_ ?_; rotate_left; (· intro w'; go_simp; with_reducible rfl); rotate_left; (· simp only [xQ, i64_w, i32_w]; rfl)
               refine pure_ (i := 10) (N := some 28) (v := ?_) (a' := ?_) b78_ rfl rfl (any_of HT_.out (by kernel_rfl)) (fun _ _ _ h => h) (Or.inl ⟨by rfl, ?_⟩) ?_ ?_; rotate_left; (· intro w'; go_simp; with_reducible rfl); rotate_left; (· simp only [xQ, i64_w, i32_w]; rfl)
               refine pure_ (i := 11) (N := some 29) (v := ?_) (a' := ?_) b79_ rfl rfl (any_of HT_.out (by kernel_rfl)) (fun _ _ _ h => h) (Or.inl ⟨by rfl, ?_⟩) ?_ ?_; rotate_left; (· intro w'; go_simp; with_reducible rfl); rotate_left; (· simp only [xQ, i64_w, i32_w]; rfl)
               refine pure_ (i := 12) (N := some 30) (v := ?_) (a' := ?_) b80_ rfl rfl (any_of HT_.out (by kernel_rfl)) (fun _ _ _ h => h) (Or.inl ⟨by rfl, ?_⟩) ?_ ?_; rotate_left; (· intro w'; go_simp; with_reducible rfl); rotate_left; (· simp only [xQ, i64_w, i32_w]; rfl)
               refine pure_ (i := 15) (N := some 33) (v := ?_) (a' := ?_) b81_ rfl rfl (any_of HT_.out (by kernel_rfl)) (fun _ _ _ h => h) (Or.inl ⟨by rfl, ?_⟩) ?_ ?_; rotate_left; (· intro w'; go_simp; with_reducible rfl); rotate_left; (· simp only [xQ, i64_w, i32_w]; rfl)
               refine pure_ (i := 16) (N := some 34) (v := ?_) (a' := ?_) b82_ rfl rfl (any_of HT_.out (by kernel_rfl)) (fun _ _ _ h => h) (Or.inl ⟨by rfl, ?_⟩) ?_ ?_; rotate_left; (· intro w'; go_simp; with_reducible rfl); rotate_left; (· simp only [xQ, i64_w, i32_w]; rfl)
               refine pure_ (i := 17) (N := some 35) (v := ?_) (a' := ?_) b83_ rfl rfl (any_of HT_.out (by kernel_rfl)) (fun _ _ _ h => h) (Or.inl ⟨by rfl, ?_⟩) ?_ ?_; rotate_left; (· intro w'; go_simp; with_reducible rfl); rotate_left; (· simp only [xQ, i64_w, i32_w]; rfl)
               refine take_ (i := 13) (N := some 31) (v := ?_) (a' := ?_) b85_ rfl rfl (take_ofW HT_.out HW_.out (by kernel_rfl)) (fun _ _ _ h => h) (Or.inl ⟨by rfl, ?_⟩) hHeld ?_ ?_; rotate_left; (· rintro w' ⟨s0, s1, s2, s3, s4, s5, s6, s7, s8, s9, s10, s11, s12, s13⟩; go_simp; with_reducible rfl); rotate_left; (· simp only [xQ, i64_w, i32_w]; rfl)
               refine take_ (i := 18) (N := some 36) (v := ?_) (a' := ?_) b86_ rfl rfl (take_ofW HT_.out HW_.out (by kernel_rfl)) (fun _ _ _ h => h) (Or.inl ⟨by rfl, ?_⟩) hHeld ?_ ?_; rotate_left; (· rintro w' ⟨s0, s1, s2, s3, s4, s5, s6, s7, s8, s9, s10, s11, s12, s13⟩; go_simp; with_reducible rfl); rotate_left; (· simp only [xQ, i64_w, i32_w]; rfl)
               refine one_ (i := 14) (N := some 32) b91_ rfl rfl (one_of HT_.out (by kernel_rfl)) (by decide) (fun K hK => ?_)
               refine goes_ Try.func53 (by kernel_rfl) rfl #[.agg #[.string ((rd_T85 x3_1 x6_2).f0), .int .i64 ((rd_T85 x3_1 x6_2).f1)]] (by rfl) rfl rfl (by (try simp only [List.map_toArray, List.map_cons, List.map_nil]); first | done | rfl | (simp only [List.length_drop, List.length_take]; rfl)) ?_
               with_reducible refine (r06_worth.calls ((rd_T85 x3_1 x6_2).f0) ((rd_T85 x3_1 x6_2).f1) t391 _ A12.out).mono ?_
               rintro e w27 ⟨rfl, hb⟩
               have HS0_ := (hb.cell (World.block_lt_of_cell? _ _ (hHeld.1))).trans (hHeld.1)
               have HS1_ := (hb.cell (World.block_lt_of_cell? _ _ (hHeld.2.1))).trans (hHeld.2.1)
               have HS2_ := (hb.cell (World.block_lt_of_cell? _ _ (hHeld.2.2.1))).trans (hHeld.2.2.1)
               have HS3_ := (hb.cell (World.block_lt_of_cell? _ _ (hHeld.2.2.2.1))).trans (hHeld.2.2.2.1)
               have HS4_ := (hb.cell (World.block_lt_of_cell? _ _ (hHeld.2.2.2.2.1))).trans (hHeld.2.2.2.2.1)
               have HS5_ := (hb.cell (World.block_lt_of_cell? _ _ (hHeld.2.2.2.2.2.1))).trans (hHeld.2.2.2.2.2.1)
               have HS6_ := (hb.cell (World.block_lt_of_cell? _ _ (hHeld.2.2.2.2.2.2.1))).trans (hHeld.2.2.2.2.2.2.1)
               have HS7_ := (hb.cell (World.block_lt_of_cell? _ _ (hHeld.2.2.2.2.2.2.2.1))).trans (hHeld.2.2.2.2.2.2.2.1)
               have HS8_ := (hb.cell (World.block_lt_of_cell? _ _ (hHeld.2.2.2.2.2.2.2.2.1))).trans (hHeld.2.2.2.2.2.2.2.2.1)
               have HS9_ := (hb.cell (World.block_lt_of_cell? _ _ (hHeld.2.2.2.2.2.2.2.2.2.1))).trans (hHeld.2.2.2.2.2.2.2.2.2.1)
               have HS10_ := (hb.cell (World.block_lt_of_cell? _ _ (hHeld.2.2.2.2.2.2.2.2.2.2.1))).trans (hHeld.2.2.2.2.2.2.2.2.2.2.1)
               have HS11_ := (hb.cell (World.block_lt_of_cell? _ _ (hHeld.2.2.2.2.2.2.2.2.2.2.2.1))).trans (hHeld.2.2.2.2.2.2.2.2.2.2.2.1)
               have HS12_ := (hb.cell (World.block_lt_of_cell? _ _ (hHeld.2.2.2.2.2.2.2.2.2.2.2.2.1))).trans (hHeld.2.2.2.2.2.2.2.2.2.2.2.2.1)
               have HS13_ := (hb.cell (World.block_lt_of_cell? _ _ (hHeld.2.2.2.2.2.2.2.2.2.2.2.2.2))).trans (hHeld.2.2.2.2.2.2.2.2.2.2.2.2.2)
               refine ⟨_, rfl, ?_⟩
               have n0_ := aM (Kd.R_below (xR HO_3.out) hb)
               have n1_ := aM (Kd.R_below (xR HO_4.out) hb)
               have n2_ := aM (below_step (xB HB.out) hb)
               clear HO_3
               clear HO_4
               clear HB
               have HO_3 := n0_
               have HO_4 := n1_
               have HB := n2_
               clear n0_ n1_ n2_
               (try clear hb)
               (try clear hb2)
               (try clear hk)
               (try clear hi)
               refine hK.out _ _ ⟨HS0_, HS1_, HS2_, HS3_, HS4_, HS5_, HS6_, HS7_, HS8_, HS9_, HS10_, HS11_, HS12_, HS13_⟩ (fun hHeld => ?_)
               clear hK K
               refine norm_ (a' := ?_) ?_ ?_
               rotate_left
               ·
                show Act.put _ (some 32) _ = _
                simp only [xQ, i64_w, i32_w]
                rfl
               refine one_ (i := 19) (N := some 37) b92_ rfl rfl (one_of HT_.out (by kernel_rfl)) (by decide) (fun K hK => ?_)
               refine goes_ Try.func53 (by kernel_rfl) rfl #[.agg #[.string ((rd_T85 x3_1 x5_2).f0), .int .i64 ((rd_T85 x3_1 x5_2).f1)]] (by rfl) rfl rfl (by (try simp only [List.map_toArray, List.map_cons, List.map_nil]); first | done | rfl | (simp only [List.length_drop, List.length_take]; rfl)) ?_
               with_reducible refine (r06_worth.calls ((rd_T85 x3_1 x5_2).f0) ((rd_T85 x3_1 x5_2).f1) t393 _ A15.out).mono ?_
               rintro e w28 ⟨rfl, hb⟩
               have HS0_ := (hb.cell (World.block_lt_of_cell? _ _ (hHeld.1))).trans (hHeld.1)
               have HS1_ := (hb.cell (World.block_lt_of_cell? _ _ (hHeld.2.1))).trans (hHeld.2.1)
               have HS2_ := (hb.cell (World.block_lt_of_cell? _ _ (hHeld.2.2.1))).trans (hHeld.2.2.1)
               have HS3_ := (hb.cell (World.block_lt_of_cell? _ _ (hHeld.2.2.2.1))).trans (hHeld.2.2.2.1)
               have HS4_ := (hb.cell (World.block_lt_of_cell? _ _ (hHeld.2.2.2.2.1))).trans (hHeld.2.2.2.2.1)
               have HS5_ := (hb.cell (World.block_lt_of_cell? _ _ (hHeld.2.2.2.2.2.1))).trans (hHeld.2.2.2.2.2.1)
               have HS6_ := (hb.cell (World.block_lt_of_cell? _ _ (hHeld.2.2.2.2.2.2.1))).trans (hHeld.2.2.2.2.2.2.1)
               have HS7_ := (hb.cell (World.block_lt_of_cell? _ _ (hHeld.2.2.2.2.2.2.2.1))).trans (hHeld.2.2.2.2.2.2.2.1)
               have HS8_ := (hb.cell (World.block_lt_of_cell? _ _ (hHeld.2.2.2.2.2.2.2.2.1))).trans (hHeld.2.2.2.2.2.2.2.2.1)
               have HS9_ := (hb.cell (World.block_lt_of_cell? _ _ (hHeld.2.2.2.2.2.2.2.2.2.1))).trans (hHeld.2.2.2.2.2.2.2.2.2.1)
               have HS10_ := (hb.cell (World.block_lt_of_cell? _ _ (hHeld.2.2.2.2.2.2.2.2.2.2.1))).trans (hHeld.2.2.2.2.2.2.2.2.2.2.1)
               have HS11_ := (hb.cell (World.block_lt_of_cell? _ _ (hHeld.2.2.2.2.2.2.2.2.2.2.2.1))).trans (hHeld.2.2.2.2.2.2.2.2.2.2.2.1)
               have HS12_ := (hb.cell (World.block_lt_of_cell? _ _ (hHeld.2.2.2.2.2.2.2.2.2.2.2.2.1))).trans (hHeld.2.2.2.2.2.2.2.2.2.2.2.2.1)
               have HS13_ := (hb.cell (World.block_lt_of_cell? _ _ (hHeld.2.2.2.2.2.2.2.2.2.2.2.2.2))).trans (hHeld.2.2.2.2.2.2.2.2.2.2.2.2.2)
               refine ⟨_, rfl, ?_⟩
               have n0_ := aM (Kd.R_below (xR HO_3.out) hb)
               have n1_ := aM (Kd.R_below (xR HO_4.out) hb)
               have n2_ := aM (below_step (xB HB.out) hb)
               clear HO_3
               clear HO_4
               clear HB
               have HO_3 := n0_
               have HO_4 := n1_
               have HB := n2_
               clear n0_ n1_ n2_
               (try clear hb)
               (try clear hb2)
               (try clear hk)
               (try clear hi)
               refine hK.out _ _ ⟨HS0_, HS1_, HS2_, HS3_, HS4_, HS5_, HS6_, HS7_, HS8_, HS9_, HS10_, HS11_, HS12_, HS13_⟩ (fun hHeld => ?_)
               clear hK K
               refine norm_ (a' := ?_) ?_ ?_
               rotate_left
               ·
                show Act.put _ (some 37) _ = _
                simp only [xQ, i64_w, i32_w]
                rfl
               refine pure_ (i := 20) (N := some 38) (v := ?_) (a' := ?_) b93_ rfl rfl (any_of HT_.out (by kernel_rfl)) (fun _ _ _ h => h) (Or.inl ⟨by rfl, ?_⟩) ?_ ?_; rotate_left; (· intro w'; go_simp; with_reducible rfl); rotate_left; (· simp only [xQ, i64_w, i32_w]; rfl)
               refine pure_ (i := 21) (N := some 39) (v := ?_) (a' := ?_) b94_ rfl rfl (any_of HT_.out (by kernel_rfl)) (fun _ _ _ h => h) (Or.inl ⟨by rfl, ?_⟩) ?_ ?_; rotate_left; (· intro w'; go_simp; with_reducible rfl); rotate_left; (· simp only [xQ, i64_w, i32_w]; rfl)
               refine pure_ (i := 22) (N := some 40) (v := ?_) (a' := ?_) b95_ rfl rfl (any_of HT_.out (by kernel_rfl)) (fun _ _ _ h => h) (Or.inl ⟨by rfl, ?_⟩) ?_ ?_; rotate_left; (· intro w'; go_simp; with_reducible rfl); rotate_left; (· simp only [xQ, i64_w, i32_w]; rfl)
               refine pure_ (i := 23) (N := some 41) (v := ?_) (a' := ?_) b96_ rfl rfl (any_of HT_.out (by kernel_rfl)) (fun _ _ _ h => h) (Or.inl ⟨by rfl, ?_⟩) ?_ ?_; rotate_left; (· intro w'; go_simp; with_reducible rfl); rotate_left; (· simp only [xQ, i64_w, i32_w]; rfl)
               refine pure_ (i := 24) (N := some 42) (v := ?_) (a' := ?_) b97_ rfl rfl (any_of HT_.out (by kernel_rfl)) (fun _ _ _ h => h) (Or.inl ⟨by rfl, ?_⟩) ?_ ?_; rotate_left; (· intro w'; go_simp; with_reducible rfl); rotate_left; (· simp only [xQ, i64_w, i32_w]; rfl)
               refine pure_ (i := 25) (N := some 43) (v := ?_) (a' := ?_) b98_ rfl rfl (any_of HT_.out (by kernel_rfl)) (fun _ _ _ h => h) (Or.inl ⟨by rfl, ?_⟩) ?_ ?_; rotate_left; (· intro w'; go_simp; with_reducible rfl); rotate_left; (· simp only [xQ, i64_w, i32_w]; rfl)
               refine pure_ (i := 28) (N := some 46) (v := ?_) (a' := ?_) b99_ rfl rfl (any_of HT_.out (by kernel_rfl)) (fun _ _ _ h => h) (Or.inl ⟨by rfl, ?_⟩) ?_ ?_; rotate_left; (· intro w'; go_simp; with_reducible rfl); rotate_left; (· simp only [xQ, i64_w, i32_w]; rfl)
               refine pure_ (i := 29) (N := some 47) (v := ?_) (a' := ?_) b100_ rfl rfl (any_of HT_.out (by kernel_rfl)) (fun _ _ _ h => h) (Or.inl ⟨by rfl, ?_⟩) ?_ ?_; rotate_left; (· intro w'; go_simp; with_reducible rfl); rotate_left; (· simp only [xQ, i64_w, i32_w]; rfl)
               refine pure_ (i := 30) (N := some 48) (v := ?_) (a' := ?_) b101_ rfl rfl (any_of HT_.out (by kernel_rfl)) (fun _ _ _ h => h) (Or.inl ⟨by rfl, ?_⟩) ?_ ?_; rotate_left; (· intro w'; go_simp; with_reducible rfl); rotate_left; (· simp only [xQ, i64_w, i32_w]; rfl)
               refine take_ (i := 26) (N := some 44) (v := ?_) (a' := ?_) b103_ rfl rfl (take_ofW HT_.out HW_.out (by kernel_rfl)) (fun _ _ _ h => h) (Or.inl ⟨by rfl, ?_⟩) hHeld ?_ ?_; rotate_left; (· rintro w' ⟨s0, s1, s2, s3, s4, s5, s6, s7, s8, s9, s10, s11, s12, s13⟩; go_simp; with_reducible rfl); rotate_left; (· simp only [xQ, i64_w, i32_w]; rfl)
               refine take_ (i := 31) (N := some 49) (v := ?_) (a' := ?_) b104_ rfl rfl (take_ofW HT_.out HW_.out (by kernel_rfl)) (fun _ _ _ h => h) (Or.inl ⟨by rfl, ?_⟩) hHeld ?_ ?_; rotate_left; (· rintro w' ⟨s0, s1, s2, s3, s4, s5, s6, s7, s8, s9, s10, s11, s12, s13⟩; go_simp; with_reducible rfl); rotate_left; (· simp only [xQ, i64_w, i32_w]; rfl)
               refine one_ (i := 27) (N := some 45) b109_ rfl rfl (one_of HT_.out (by kernel_rfl)) (by decide) (fun K hK => ?_)
               refine goes_ Try.func53 (by kernel_rfl) rfl #[.agg #[.string ((rd_T85 x3_1 x6_2).f0), .int .i64 ((rd_T85 x3_1 x6_2).f1)]] (by rfl) rfl rfl (by (try simp only [List.map_toArray, List.map_cons, List.map_nil]); first | done | rfl | (simp only [List.length_drop, List.length_take]; rfl)) ?_
               with_reducible refine (r06_worth.calls ((rd_T85 x3_1 x6_2).f0) ((rd_T85 x3_1 x6_2).f1) t395 _ A21.out).mono ?_
               rintro e w29 ⟨rfl, hb⟩
               have HS0_ := (hb.cell (World.block_lt_of_cell? _ _ (hHeld.1))).trans (hHeld.1)
               have HS1_ := (hb.cell (World.block_lt_of_cell? _ _ (hHeld.2.1))).trans (hHeld.2.1)
               have HS2_ := (hb.cell (World.block_lt_of_cell? _ _ (hHeld.2.2.1))).trans (hHeld.2.2.1)
               have HS3_ := (hb.cell (World.block_lt_of_cell? _ _ (hHeld.2.2.2.1))).trans (hHeld.2.2.2.1)
               have HS4_ := (hb.cell (World.block_lt_of_cell? _ _ (hHeld.2.2.2.2.1))).trans (hHeld.2.2.2.2.1)
               have HS5_ := (hb.cell (World.block_lt_of_cell? _ _ (hHeld.2.2.2.2.2.1))).trans (hHeld.2.2.2.2.2.1)
               have HS6_ := (hb.cell (World.block_lt_of_cell? _ _ (hHeld.2.2.2.2.2.2.1))).trans (hHeld.2.2.2.2.2.2.1)
               have HS7_ := (hb.cell (World.block_lt_of_cell? _ _ (hHeld.2.2.2.2.2.2.2.1))).trans (hHeld.2.2.2.2.2.2.2.1)
               have HS8_ := (hb.cell (World.block_lt_of_cell? _ _ (hHeld.2.2.2.2.2.2.2.2.1))).trans (hHeld.2.2.2.2.2.2.2.2.1)
               have HS9_ := (hb.cell (World.block_lt_of_cell? _ _ (hHeld.2.2.2.2.2.2.2.2.2.1))).trans (hHeld.2.2.2.2.2.2.2.2.2.1)
               have HS10_ := (hb.cell (World.block_lt_of_cell? _ _ (hHeld.2.2.2.2.2.2.2.2.2.2.1))).trans (hHeld.2.2.2.2.2.2.2.2.2.2.1)
               have HS11_ := (hb.cell (World.block_lt_of_cell? _ _ (hHeld.2.2.2.2.2.2.2.2.2.2.2.1))).trans (hHeld.2.2.2.2.2.2.2.2.2.2.2.1)
               have HS12_ := (hb.cell (World.block_lt_of_cell? _ _ (hHeld.2.2.2.2.2.2.2.2.2.2.2.2.1))).trans (hHeld.2.2.2.2.2.2.2.2.2.2.2.2.1)
               have HS13_ := (hb.cell (World.block_lt_of_cell? _ _ (hHeld.2.2.2.2.2.2.2.2.2.2.2.2.2))).trans (hHeld.2.2.2.2.2.2.2.2.2.2.2.2.2)
               refine ⟨_, rfl, ?_⟩
               have n0_ := aM (Kd.R_below (xR HO_3.out) hb)
               have n1_ := aM (Kd.R_below (xR HO_4.out) hb)
               have n2_ := aM (below_step (xB HB.out) hb)
               clear HO_3
               clear HO_4
               clear HB
               have HO_3 := n0_
               have HO_4 := n1_
               have HB := n2_
               clear n0_ n1_ n2_
               (try clear hb)
               (try clear hb2)
               (try clear hk)
               (try clear hi)
               refine hK.out _ _ ⟨HS0_, HS1_, HS2_, HS3_, HS4_, HS5_, HS6_, HS7_, HS8_, HS9_, HS10_, HS11_, HS12_, HS13_⟩ (fun hHeld => ?_)
               clear hK K
               refine norm_ (a' := ?_) ?_ ?_
               rotate_left
               ·
                show Act.put _ (some 45) _ = _
                simp only [xQ, i64_w, i32_w]
                rfl
               refine one_ (i := 32) (N := some 50) b110_ rfl rfl (one_of HT_.out (by kernel_rfl)) (by decide) (fun K hK => ?_)
               refine goes_ Try.func53 (by kernel_rfl) rfl #[.agg #[.string ((rd_T85 x3_1 x5_2).f0), .int .i64 ((rd_T85 x3_1 x5_2).f1)]] (by rfl) rfl rfl (by (try simp only [List.map_toArray, List.map_cons, List.map_nil]); first | done | rfl | (simp only [List.length_drop, List.length_take]; rfl)) ?_
               with_reducible refine (r06_worth.calls ((rd_T85 x3_1 x5_2).f0) ((rd_T85 x3_1 x5_2).f1) t397 _ A22.out).mono ?_
               rintro e w30 ⟨rfl, hb⟩
               have HS0_ := (hb.cell (World.block_lt_of_cell? _ _ (hHeld.1))).trans (hHeld.1)
               have HS1_ := (hb.cell (World.block_lt_of_cell? _ _ (hHeld.2.1))).trans (hHeld.2.1)
               have HS2_ := (hb.cell (World.block_lt_of_cell? _ _ (hHeld.2.2.1))).trans (hHeld.2.2.1)
               have HS3_ := (hb.cell (World.block_lt_of_cell? _ _ (hHeld.2.2.2.1))).trans (hHeld.2.2.2.1)
               have HS4_ := (hb.cell (World.block_lt_of_cell? _ _ (hHeld.2.2.2.2.1))).trans (hHeld.2.2.2.2.1)
               have HS5_ := (hb.cell (World.block_lt_of_cell? _ _ (hHeld.2.2.2.2.2.1))).trans (hHeld.2.2.2.2.2.1)
               have HS6_ := (hb.cell (World.block_lt_of_cell? _ _ (hHeld.2.2.2.2.2.2.1))).trans (hHeld.2.2.2.2.2.2.1)
               have HS7_ := (hb.cell (World.block_lt_of_cell? _ _ (hHeld.2.2.2.2.2.2.2.1))).trans (hHeld.2.2.2.2.2.2.2.1)
               have HS8_ := (hb.cell (World.block_lt_of_cell? _ _ (hHeld.2.2.2.2.2.2.2.2.1))).trans (hHeld.2.2.2.2.2.2.2.2.1)
               have HS9_ := (hb.cell (World.block_lt_of_cell? _ _ (hHeld.2.2.2.2.2.2.2.2.2.1))).trans (hHeld.2.2.2.2.2.2.2.2.2.1)
               have HS10_ := (hb.cell (World.block_lt_of_cell? _ _ (hHeld.2.2.2.2.2.2.2.2.2.2.1))).trans (hHeld.2.2.2.2.2.2.2.2.2.2.1)
               have HS11_ := (hb.cell (World.block_lt_of_cell? _ _ (hHeld.2.2.2.2.2.2.2.2.2.2.2.1))).trans (hHeld.2.2.2.2.2.2.2.2.2.2.2.1)
               have HS12_ := (hb.cell (World.block_lt_of_cell? _ _ (hHeld.2.2.2.2.2.2.2.2.2.2.2.2.1))).trans (hHeld.2.2.2.2.2.2.2.2.2.2.2.2.1)
               have HS13_ := (hb.cell (World.block_lt_of_cell? _ _ (hHeld.2.2.2.2.2.2.2.2.2.2.2.2.2))).trans (hHeld.2.2.2.2.2.2.2.2.2.2.2.2.2)
               refine ⟨_, rfl, ?_⟩
               have n0_ := aM (Kd.R_below (xR HO_3.out) hb)
               have n1_ := aM (Kd.R_below (xR HO_4.out) hb)
               have n2_ := aM (below_step (xB HB.out) hb)
               clear HO_3
               clear HO_4
               clear HB
               have HO_3 := n0_
               have HO_4 := n1_
               have HB := n2_
               clear n0_ n1_ n2_
               (try clear hb)
               (try clear hb2)
               (try clear hk)
               (try clear hi)
               refine hK.out _ _ ⟨HS0_, HS1_, HS2_, HS3_, HS4_, HS5_, HS6_, HS7_, HS8_, HS9_, HS10_, HS11_, HS12_, HS13_⟩ (fun hHeld => ?_)
               clear hK K
               refine norm_ (a' := ?_) ?_ ?_
               rotate_left
               ·
                show Act.put _ (some 50) _ = _
                simp only [xQ, i64_w, i32_w]
                rfl
               refine pure_ (i := 33) (N := some 51) (v := ?_) (a' := ?_) b111_ rfl rfl (any_of HT_.out (by kernel_rfl)) (fun _ _ _ h => h) (Or.inl ⟨by rfl, ?_⟩) ?_ ?_; rotate_left; (· intro w'; go_simp; with_reducible rfl); rotate_left; (· simp only [xQ, i64_w, i32_w]; rfl)
               refine pure_ (i := 34) (N := some 52) (v := ?_) (a' := ?_) b112_ rfl rfl (any_of HT_.out (by kernel_rfl)) (fun _ _ _ h => h) (Or.inl ⟨by rfl, ?_⟩) ?_ ?_; rotate_left; (· intro w'; go_simp; with_reducible rfl); rotate_left; (· simp only [xQ, i64_w, i32_w]; rfl)
               refine pure_ (i := 35) (N := some 53) (v := ?_) (a' := ?_) b113_ rfl rfl (any_of HT_.out (by kernel_rfl)) (fun _ _ _ h => h) (Or.inl ⟨by rfl, ?_⟩) ?_ ?_; rotate_left; (· intro w'; go_simp; with_reducible rfl); rotate_left; (· simp only [xQ, i64_w, i32_w]; rfl)
               refine pure_ (i := 36) (N := some 54) (v := ?_) (a' := ?_) b114_ rfl rfl (any_of HT_.out (by kernel_rfl)) (fun _ _ _ h => h) (Or.inl ⟨by rfl, ?_⟩) ?_ ?_; rotate_left; (· intro w'; go_simp; with_reducible rfl); rotate_left; (· simp only [xQ, i64_w, i32_w]; rfl)
               refine pure_ (i := 37) (N := some 55) (v := ?_) (a' := ?_) b115_ rfl rfl (any_of HT_.out (by kernel_rfl)) (fun _ _ _ h => h) (Or.inl ⟨by rfl, ?_⟩) ?_ ?_; rotate_left; (· intro w'; go_simp; with_reducible rfl); rotate_left; (· simp only [xQ, i64_w, i32_w]; rfl)
               refine pure_ (i := 38) (N := some 56) (v := ?_) (a' := ?_) b116_ rfl rfl (any_of HT_.out (by kernel_rfl)) (fun _ _ _ h => h) (Or.inl ⟨by rfl, ?_⟩) ?_ ?_; rotate_left; (· intro w'; go_simp; with_reducible rfl); rotate_left; (· simp only [xQ, i64_w, i32_w]; rfl)
               refine pure_ (i := 40) (N := some 58) (v := ?_) (a' := ?_) b117_ rfl rfl (any_of HT_.out (by kernel_rfl)) (fun _ _ _ h => h) (Or.inl ⟨by rfl, ?_⟩) ?_ ?_; rotate_left; (· intro w'; go_simp; with_reducible rfl); rotate_left; (· simp only [xQ, i64_w, i32_w]; rfl)
               refine pure_ (i := 41) (N := some 59) (v := ?_) (a' := ?_) b118_ rfl rfl (any_of HT_.out (by kernel_rfl)) (fun _ _ _ h => h) (Or.inl ⟨by rfl, ?_⟩) ?_ ?_; rotate_left; (· intro w'; go_simp; with_reducible rfl); rotate_left; (· simp only [xQ, i64_w, i32_w]; rfl)
               refine pure_ (i := 42) (N := some 60) (v := ?_) (a' := ?_) b119_ rfl rfl (any_of HT_.out (by kernel_rfl)) (fun _ _ _ h => h) (Or.inl ⟨by rfl, ?_⟩) ?_ ?_; rotate_left; (· intro w'; go_simp; with_reducible rfl); rotate_left; (· simp only [xQ, i64_w, i32_w]; rfl)
               refine pure_ (i := 43) (N := some 61) (v := ?_) (a' := ?_) b120_ rfl rfl (any_of HT_.out (by kernel_rfl)) (fun _ _ _ h => h) (Or.inl ⟨by rfl, ?_⟩) ?_ ?_; rotate_left; (· intro w'; go_simp; with_reducible rfl); rotate_left; (· simp only [xQ, i64_w, i32_w]; rfl)
               refine take_ (i := 39) (N := some 57) (v := ?_) (a' := ?_) b125_ rfl rfl (take_ofW HT_.out HW_.out (by kernel_rfl)) (fun _ _ _ h => h) (Or.inl ⟨by rfl, ?_⟩) hHeld ?_ ?_; rotate_left; (· rintro w' ⟨s0, s1, s2, s3, s4, s5, s6, s7, s8, s9, s10, s11, s12, s13⟩; go_simp; with_reducible rfl); rotate_left; (· simp only [xQ, i64_w, i32_w]; rfl)
               refine take_ (i := 44) (N := some 62) (v := ?_) (a' := ?_) b126_ rfl rfl (take_ofW HT_.out HW_.out (by kernel_rfl)) (fun _ _ _ h => h) (Or.inl ⟨by rfl, ?_⟩) hHeld ?_ ?_; rotate_left; (· rintro w' ⟨s0, s1, s2, s3, s4, s5, s6, s7, s8, s9, s10, s11, s12, s13⟩; go_simp; with_reducible rfl); rotate_left; (· simp only [xQ, i64_w, i32_w]; rfl)
               refine pure_ (i := 45) (N := some 63) (v := ?_) (a' := ?_) b127_ rfl rfl (any_of HT_.out (by kernel_rfl)) (fun _ _ _ h => h) (Or.inl ⟨by rfl, ?_⟩) ?_ ?_; rotate_left; (· intro w'; go_simp; with_reducible rfl); rotate_left; (· simp only [xQ, i64_w, i32_w]; rfl)
               refine pure_ (i := 46) (N := some 64) (v := ?_) (a' := ?_) b128_ rfl rfl (any_of HT_.out (by kernel_rfl)) (fun _ _ _ h => h) (Or.inl ⟨by rfl, ?_⟩) ?_ ?_; rotate_left; (· intro w'; go_simp; with_reducible rfl); rotate_left; (· simp only [xQ, i64_w, i32_w]; rfl)
               refine pure_ (i := 47) (N := some 65) (v := ?_) (a' := ?_) b129_ rfl rfl (any_of HT_.out (by kernel_rfl)) (fun _ _ _ h => h) (Or.inl ⟨by rfl, ?_⟩) ?_ ?_; rotate_left; (· intro w'; go_simp; with_reducible rfl); rotate_left; (· simp only [xQ, i64_w, i32_w]; rfl)
               refine pure_ (i := 48) (N := some 66) (v := ?_) (a' := ?_) b130_ rfl rfl (any_of HT_.out (by kernel_rfl)) (fun _ _ _ h => h) (Or.inl ⟨by rfl, ?_⟩) ?_ ?_; rotate_left; (· intro w'; go_simp; with_reducible rfl); rotate_left; (· simp only [xQ, i64_w, i32_w]; rfl)
               refine done_ (done_of HT_.out (by kernel_rfl)) ?_
               try go_wp2
               go_roundg k2
               case measure => have := HK1.out; have := HK2.out; omega
               case rel => exact ⟨(x6_2), (wrap64 (x6_2 + 1)), (by first | rfl | (simp; done) | (simp [*]; done)), (by first | rfl | (simp; done) | (simp [*]; done)), H', ⟨by have := HK1.out; have := HK2.out; omega⟩, ⟨by (with_reducible repeat (first | apply Kd.R_alloc | apply Kd.R_drewN | apply Kd.R_drew)); exact HO_3.out⟩, ⟨by (with_reducible repeat (first | apply Kd.R_alloc | apply Kd.R_drewN | apply Kd.R_drew)); exact HO_4.out⟩, ⟨xB HB.out⟩⟩
              ·
               rw [if_neg c24] at H
               have c24b0 : (Op.bytesLess (((rd_T85 x3_1 x6_2).f0).toList) (((rd_T85 x3_1 x5_2).f0).toList)) = false := by simpa using c24
               clear c24
               have H' := aM H
               clear H
               obtain ⟨Ao31, co31, eo31⟩ := Kd.R_slice HO_3.out
               subst eo31
               try go_wp2
               have n0_ := aM (Kd.R_drew HO_3.out)
               have n1_ := aM (Kd.R_drew HO_4.out)
               have n2_ := aM (below_drew1 HB.out)
               clear HO_3
               clear HO_4
               clear HB
               have HO_3 := n0_
               have HO_4 := n1_
               have HB := n2_
               clear n0_ n1_ n2_
               have p389 : 0 ≤ (x6_2 : Int) := of_decide_eq_true (by first | (with_reducible assumption) | assumption)
               have q389 : x6_2 < (x3_1.length : Int) := of_decide_eq_true (by first | (with_reducible assumption) | assumption)
               obtain ⟨ad389, e389, hx389_0, hx389_1⟩ := at_T85 (Kd.R_reads' HO_3.out).2.2 x6_2 p389 q389
               cases e389
               replace p389 := eq_true p389
               replace q389 := eq_true q389
               have p390 : 0 ≤ (x6_2 : Int) := of_decide_eq_true (by first | (with_reducible assumption) | assumption)
               have q390 : x6_2 < (x3_1.length : Int) := of_decide_eq_true (by first | (with_reducible assumption) | assumption)
               obtain ⟨ad390, e390, hx390_0, hx390_1⟩ := at_T85 (Kd.R_reads' HO_3.out).2.2 x6_2 p390 q390
               obtain rfl : ad389 = ad390 := (by injection e390)
               replace p390 := eq_true p390
               replace q390 := eq_true q390
               have p392 : 0 ≤ (x5_2 : Int) := of_decide_eq_true (by first | (with_reducible assumption) | assumption)
               have q392 : x5_2 < (x3_1.length : Int) := of_decide_eq_true (by first | (with_reducible assumption) | assumption)
               obtain ⟨ad392, e392, hx392_0, hx392_1⟩ := at_T85 (Kd.R_reads' HO_3.out).2.2 x5_2 p392 q392
               obtain rfl : ad389 = ad392 := (by injection e392)
               replace p392 := eq_true p392
               replace q392 := eq_true q392
               have p394 : 0 ≤ (x6_2 : Int) := of_decide_eq_true (by first | (with_reducible assumption) | assumption)
               have q394 : x6_2 < (x3_1.length : Int) := of_decide_eq_true (by first | (with_reducible assumption) | assumption)
               obtain ⟨ad394, e394, hx394_0, hx394_1⟩ := at_T85 (Kd.R_reads' HO_3.out).2.2 x6_2 p394 q394
               obtain rfl : ad389 = ad394 := (by injection e394)
               replace p394 := eq_true p394
               replace q394 := eq_true q394
               have p396 : 0 ≤ (x5_2 : Int) := of_decide_eq_true (by first | (with_reducible assumption) | assumption)
               have q396 : x5_2 < (x3_1.length : Int) := of_decide_eq_true (by first | (with_reducible assumption) | assumption)
               obtain ⟨ad396, e396, hx396_0, hx396_1⟩ := at_T85 (Kd.R_reads' HO_3.out).2.2 x5_2 p396 q396
               obtain rfl : ad389 = ad396 := (by injection e396)
               replace p396 := eq_true p396
               replace q396 := eq_true q396
               have p398 : 0 ≤ (x6_2 : Int) := of_decide_eq_true (by first | (with_reducible assumption) | assumption)
               have q398 : x6_2 < (x3_1.length : Int) := of_decide_eq_true (by first | (with_reducible assumption) | assumption)
               obtain ⟨ad398, e398, hx398_0, hx398_1⟩ := at_T85 (Kd.R_reads' HO_3.out).2.2 x6_2 p398 q398
               obtain rfl : ad389 = ad398 := (by injection e398)
               replace p398 := eq_true p398
               replace q398 := eq_true q398
               have p399 : 0 ≤ (x5_2 : Int) := of_decide_eq_true (by first | (with_reducible assumption) | assumption)
               have q399 : x5_2 < (x3_1.length : Int) := of_decide_eq_true (by first | (with_reducible assumption) | assumption)
               obtain ⟨ad399, e399, hx399_0, hx399_1⟩ := at_T85 (Kd.R_reads' HO_3.out).2.2 x5_2 p399 q399
               obtain rfl : ad389 = ad399 := (by injection e399)
               replace p399 := eq_true p399
               replace q399 := eq_true q399
               refine start_ (n := 49) (S := fun w' => w'.cell? (ad389.add ((x6_2).toNat * 2)) = some (.string ((rd_T85 x3_1 x6_2).f0)) ∧ w'.cell? ⟨(ad389.add ((x6_2).toNat * 2)).block, (ad389.add ((x6_2).toNat * 2)).off + 1, none⟩ = some (.int .i64 ((rd_T85 x3_1 x6_2).f1)) ∧ w'.cell? (ad389.add ((x6_2).toNat * 2)) = some (.string ((rd_T85 x3_1 x6_2).f0)) ∧ w'.cell? ⟨(ad389.add ((x6_2).toNat * 2)).block, (ad389.add ((x6_2).toNat * 2)).off + 1, none⟩ = some (.int .i64 ((rd_T85 x3_1 x6_2).f1)) ∧ w'.cell? (ad389.add ((x5_2).toNat * 2)) = some (.string ((rd_T85 x3_1 x5_2).f0)) ∧ w'.cell? ⟨(ad389.add ((x5_2).toNat * 2)).block, (ad389.add ((x5_2).toNat * 2)).off + 1, none⟩ = some (.int .i64 ((rd_T85 x3_1 x5_2).f1)) ∧ w'.cell? (ad389.add ((x6_2).toNat * 2)) = some (.string ((rd_T85 x3_1 x6_2).f0)) ∧ w'.cell? ⟨(ad389.add ((x6_2).toNat * 2)).block, (ad389.add ((x6_2).toNat * 2)).off + 1, none⟩ = some (.int .i64 ((rd_T85 x3_1 x6_2).f1)) ∧ w'.cell? (ad389.add ((x5_2).toNat * 2)) = some (.string ((rd_T85 x3_1 x5_2).f0)) ∧ w'.cell? ⟨(ad389.add ((x5_2).toNat * 2)).block, (ad389.add ((x5_2).toNat * 2)).off + 1, none⟩ = some (.int .i64 ((rd_T85 x3_1 x5_2).f1)) ∧ w'.cell? (ad389.add ((x6_2).toNat * 2)) = some (.string ((rd_T85 x3_1 x6_2).f0)) ∧ w'.cell? ⟨(ad389.add ((x6_2).toNat * 2)).block, (ad389.add ((x6_2).toNat * 2)).off + 1, none⟩ = some (.int .i64 ((rd_T85 x3_1 x6_2).f1)) ∧ w'.cell? (ad389.add ((x5_2).toNat * 2)) = some (.string ((rd_T85 x3_1 x5_2).f0)) ∧ w'.cell? ⟨(ad389.add ((x5_2).toNat * 2)).block, (ad389.add ((x5_2).toNat * 2)).off + 1, none⟩ = some (.int .i64 ((rd_T85 x3_1 x5_2).f1))) (ds := []) b67_ (by kernel_rfl) rfl rfl ⟨hx389_0, hx389_1, hx390_0, hx390_1, hx392_0, hx392_1, hx394_0, hx394_1, hx396_0, hx396_1, hx398_0, hx398_1, hx399_0, hx399_1⟩ (fun hHeld => ?_); refine with_tabW r06_Train.tab8 r06_Train.bits8 (fun HT_ HW_ => ?_)
               generalize wr.drew = w32 at HO_3 HO_4 HB hx389_0 hx389_1 hx390_0 hx390_1 hx392_0 hx392_1 hx394_0 hx394_1 hx396_0 hx396_1 hx398_0 hx398_1 hx399_0 hx399_1 hHeld ⊢
               refine pure_ (i := 0) (N := some 18) (v := ?_) (a' := ?_) b68_ rfl rfl (any_of HT_.out (by kernel_rfl)) (fun _ _ _ h => h) (Or.inl ⟨by rfl, ?_⟩) ?_ ?_; rotate_left; (· intro w'; go_simp; with_reducible rfl); rotate_left; (· simp only [xQ, i64_w, i32_w]; rfl)
               refine pure_ (i := 1) (N := some 19) (v := ?_) (a' := ?_) b69_ rfl rfl (any_of HT_.out (by kernel_rfl)) (fun _ _ _ h => h) (Or.inl ⟨by rfl, ?_⟩) ?_ ?_; rotate_left; (· intro w'; go_simp; with_reducible rfl); rotate_left; (· simp only [xQ, i64_w, i32_w]; rfl)
               refine pure_ (i := 2) (N := some 20) (v := ?_) (a' := ?_) b70_ rfl rfl (any_of HT_.out (by kernel_rfl)) (fun _ _ _ h => h) (Or.inl ⟨by rfl, ?_⟩) ?_ ?_; rotate_left; (· intro w'; go_simp; with_reducible rfl); rotate_left; (· simp only [xQ, i64_w, i32_w]; rfl)
               refine pure_ (i := 3) (N := some 21) (v := ?_) (a' := ?_) b71_ rfl rfl (any_of HT_.out (by kernel_rfl)) (fun _ _ _ h => h) (Or.inl ⟨by rfl, ?_⟩) ?_ ?_; rotate_left; (· intro w'; go_simp; with_reducible rfl); rotate_left; (· simp only [xQ, i64_w, i32_w]; rfl)
               refine take_ (i := 4) (N := some 22) (v := ?_) (a' := ?_) b72_ rfl rfl (take_ofW HT_.out HW_.out (by kernel_rfl)) (fun _ _ _ h => h) (Or.inl ⟨by rfl, ?_⟩) hHeld ?_ ?_; rotate_left; (· rintro w' ⟨s0, s1, s2, s3, s4, s5, s6, s7, s8, s9, s10, s11, s12, s13⟩; go_simp; with_reducible rfl); rotate_left; (· simp only [xQ, i64_w, i32_w]; rfl)
               refine pure_ (i := 5) (N := some 23) (v := ?_) (a' := ?_) b73_ rfl rfl (any_of HT_.out (by kernel_rfl)) (fun _ _ _ h => h) (Or.inl ⟨by rfl, ?_⟩) ?_ ?_; rotate_left; (· intro w'; go_simp; with_reducible rfl); rotate_left; (· simp only [xQ, i64_w, i32_w]; rfl)
               refine pure_ (i := 6) (N := some 24) (v := ?_) (a' := ?_) b74_ rfl rfl (any_of HT_.out (by kernel_rfl)) (fun _ _ _ h => h) (Or.inl ⟨by rfl, ?_⟩) ?_ ?_; rotate_left; (· intro w'; go_simp; with_reducible rfl); rotate_left; (· simp only [xQ, i64_w, i32_w]; rfl)
               refine pure_ (i := 7) (N := some 25) (v := ?_) (a' := ?_) b75_ rfl rfl (any_of HT_.out (by kernel_rfl)) (fun _ _ _ h => h) (Or.inl ⟨by rfl, ?_⟩) ?_ ?_; rotate_left; (· intro w'; go_simp; with_reducible rfl); rotate_left; (· simp only [xQ, i64_w, i32_w]; rfl)
               refine pure_ (i := 8) (N := some 26) (v := ?_) (a' := ?_) b76_ rfl rfl (any_of HT_.out (by kernel_rfl)) (fun _ _ _ h => h) (Or.inl ⟨by rfl, ?_⟩) ?_ ?_; rotate_left; (· intro w'; go_simp; with_reducible rfl); rotate_left; (· simp only [xQ, i64_w, i32_w]; rfl)
               refine pure_ (i := 9) (N := some 27) (v := ?_) (a' := ?_) b77_ rfl rfl (any_of HT_.out (by kernel_rfl)) (fun _ _ _ h => h) (Or.inl ⟨by rfl, ?_⟩) ?_ ?_; rotate_left; (· intro w'; go_simp; with_reducible rfl); rotate_left; (· simp only [xQ, i64_w, i32_w]; rfl)
               refine pure_ (i := 10) (N := some 28) (v := ?_) (a' := ?_) b78_ rfl rfl (any_of HT_.out (by kernel_rfl)) (fun _ _ _ h => h) (Or.inl ⟨by rfl, ?_⟩) ?_ ?_; rotate_left; (· intro w'; go_simp; with_reducible rfl); rotate_left; (· simp only [xQ, i64_w, i32_w]; rfl)
               refine pure_ (i := 11) (N := some 29) (v := ?_) (a' := ?_) b79_ rfl rfl (any_of HT_.out (by kernel_rfl)) (fun _ _ _ h => h) (Or.inl ⟨by rfl, ?_⟩) ?_ ?_; rotate_left; (· intro w'; go_simp; with_reducible rfl); rotate_left; (· simp only [xQ, i64_w, i32_w]; rfl)
               refine pure_ (i := 12) (N := some 30) (v := ?_) (a' := ?_) b80_ rfl rfl (any_of HT_.out (by kernel_rfl)) (fun _ _ _ h => h) (Or.inl ⟨by rfl, ?_⟩) ?_ ?_; rotate_left; (· intro w'; go_simp; with_reducible rfl); rotate_left; (· simp only [xQ, i64_w, i32_w]; rfl)
               refine pure_ (i := 15) (N := some 33) (v := ?_) (a' := ?_) b81_ rfl rfl (any_of HT_.out (by kernel_rfl)) (fun _ _ _ h => h) (Or.inl ⟨by rfl, ?_⟩) ?_ ?_; rotate_left; (· intro w'; go_simp; with_reducible rfl); rotate_left; (· simp only [xQ, i64_w, i32_w]; rfl)
               refine pure_ (i := 16) (N := some 34) (v := ?_) (a' := ?_) b82_ rfl rfl (any_of HT_.out (by kernel_rfl)) (fun _ _ _ h => h) (Or.inl ⟨by rfl, ?_⟩) ?_ ?_; rotate_left; (· intro w'; go_simp; with_reducible rfl); rotate_left; (· simp only [xQ, i64_w, i32_w]; rfl)
               refine pure_ (i := 17) (N := some 35) (v := ?_) (a' := ?_) b83_ rfl rfl (any_of HT_.out (by kernel_rfl)) (fun _ _ _ h => h) (Or.inl ⟨by rfl, ?_⟩) ?_ ?_; rotate_left; (· intro w'; go_simp; with_reducible rfl); rotate_left; (· simp only [xQ, i64_w, i32_w]; rfl)
               refine take_ (i := 13) (N := some 31) (v := ?_) (a' := ?_) b85_ rfl rfl (take_ofW HT_.out HW_.out (by kernel_rfl)) (fun _ _ _ h => h) (Or.inl ⟨by rfl, ?_⟩) hHeld ?_ ?_; rotate_left; (· rintro w' ⟨s0, s1, s2, s3, s4, s5, s6, s7, s8, s9, s10, s11, s12, s13⟩; go_simp; with_reducible rfl); rotate_left; (· simp only [xQ, i64_w, i32_w]; rfl)
               refine take_ (i := 18) (N := some 36) (v := ?_) (a' := ?_) b86_ rfl rfl (take_ofW HT_.out HW_.out (by kernel_rfl)) (fun _ _ _ h => h) (Or.inl ⟨by rfl, ?_⟩) hHeld ?_ ?_; rotate_left; (· rintro w' ⟨s0, s1, s2, s3, s4, s5, s6, s7, s8, s9, s10, s11, s12, s13⟩; go_simp; with_reducible rfl); rotate_left; (· simp only [xQ, i64_w, i32_w]; rfl)
               refine one_ (i := 14) (N := some 32) b91_ rfl rfl (one_of HT_.out (by kernel_rfl)) (by decide) (fun K hK => ?_)
               refine goes_ Try.func53 (by kernel_rfl) rfl #[.agg #[.string ((rd_T85 x3_1 x6_2).f0), .int .i64 ((rd_T85 x3_1 x6_2).f1)]] (by rfl) rfl rfl (by (try simp only [List.map_toArray, List.map_cons, List.map_nil]); first | done | rfl | (simp only [List.length_drop, List.length_take]; rfl)) ?_
               with_reducible refine (r06_worth.calls ((rd_T85 x3_1 x6_2).f0) ((rd_T85 x3_1 x6_2).f1) t391 _ A12.out).mono ?_
               rintro e w33 ⟨rfl, hb⟩
               have HS0_ := (hb.cell (World.block_lt_of_cell? _ _ (hHeld.1))).trans (hHeld.1)
               have HS1_ := (hb.cell (World.block_lt_of_cell? _ _ (hHeld.2.1))).trans (hHeld.2.1)
               have HS2_ := (hb.cell (World.block_lt_of_cell? _ _ (hHeld.2.2.1))).trans (hHeld.2.2.1)
               have HS3_ := (hb.cell (World.block_lt_of_cell? _ _ (hHeld.2.2.2.1))).trans (hHeld.2.2.2.1)
               have HS4_ := (hb.cell (World.block_lt_of_cell? _ _ (hHeld.2.2.2.2.1))).trans (hHeld.2.2.2.2.1)
               have HS5_ := (hb.cell (World.block_lt_of_cell? _ _ (hHeld.2.2.2.2.2.1))).trans (hHeld.2.2.2.2.2.1)
               have HS6_ := (hb.cell (World.block_lt_of_cell? _ _ (hHeld.2.2.2.2.2.2.1))).trans (hHeld.2.2.2.2.2.2.1)
               have HS7_ := (hb.cell (World.block_lt_of_cell? _ _ (hHeld.2.2.2.2.2.2.2.1))).trans (hHeld.2.2.2.2.2.2.2.1)
               have HS8_ := (hb.cell (World.block_lt_of_cell? _ _ (hHeld.2.2.2.2.2.2.2.2.1))).trans (hHeld.2.2.2.2.2.2.2.2.1)
               have HS9_ := (hb.cell (World.block_lt_of_cell? _ _ (hHeld.2.2.2.2.2.2.2.2.2.1))).trans (hHeld.2.2.2.2.2.2.2.2.2.1)
               have HS10_ := (hb.cell (World.block_lt_of_cell? _ _ (hHeld.2.2.2.2.2.2.2.2.2.2.1))).trans (hHeld.2.2.2.2.2.2.2.2.2.2.1)
               have HS11_ := (hb.cell (World.block_lt_of_cell? _ _ (hHeld.2.2.2.2.2.2.2.2.2.2.2.1))).trans (hHeld.2.2.2.2.2.2.2.2.2.2.2.1)
               have HS12_ := (hb.cell (World.block_lt_of_cell? _ _ (hHeld.2.2.2.2.2.2.2.2.2.2.2.2.1))).trans (hHeld.2.2.2.2.2.2.2.2.2.2.2.2.1)
               have HS13_ := (hb.cell (World.block_lt_of_cell? _ _ (hHeld.2.2.2.2.2.2.2.2.2.2.2.2.2))).trans (hHeld.2.2.2.2.2.2.2.2.2.2.2.2.2)
               refine ⟨_, rfl, ?_⟩
               have n0_ := aM (Kd.R_below (xR HO_3.out) hb)
               have n1_ := aM (Kd.R_below (xR HO_4.out) hb)
               have n2_ := aM (below_step (xB HB.out) hb)
               clear HO_3
               clear HO_4
               clear HB
               have HO_3 := n0_
               have HO_4 := n1_
               have HB := n2_
               clear n0_ n1_ n2_
               (try clear hb)
               (try clear hb2)
               (try clear hk)
               (try clear hi)
               refine hK.out _ _ ⟨HS0_, HS1_, HS2_, HS3_, HS4_, HS5_, HS6_, HS7_, HS8_, HS9_, HS10_, HS11_, HS12_, HS13_⟩ (fun hHeld => ?_)
               clear hK K
               refine norm_ (a' := ?_) ?_ ?_
               rotate_left
               ·
                show Act.put _ (some 32) _ = _
                simp only [xQ, i64_w, i32_w]
                rfl
               refine one_ (i := 19) (N := some 37) b92_ rfl rfl (one_of HT_.out (by kernel_rfl)) (by decide) (fun K hK => ?_)
               refine goes_ Try.func53 (by kernel_rfl) rfl #[.agg #[.string ((rd_T85 x3_1 x5_2).f0), .int .i64 ((rd_T85 x3_1 x5_2).f1)]] (by rfl) rfl rfl (by (try simp only [List.map_toArray, List.map_cons, List.map_nil]); first | done | rfl | (simp only [List.length_drop, List.length_take]; rfl)) ?_
               with_reducible refine (r06_worth.calls ((rd_T85 x3_1 x5_2).f0) ((rd_T85 x3_1 x5_2).f1) t393 _ A15.out).mono ?_
               rintro e w34 ⟨rfl, hb⟩
               have HS0_ := (hb.cell (World.block_lt_of_cell? _ _ (hHeld.1))).trans (hHeld.1)
               have HS1_ := (hb.cell (World.block_lt_of_cell? _ _ (hHeld.2.1))).trans (hHeld.2.1)
               have HS2_ := (hb.cell (World.block_lt_of_cell? _ _ (hHeld.2.2.1))).trans (hHeld.2.2.1)
               have HS3_ := (hb.cell (World.block_lt_of_cell? _ _ (hHeld.2.2.2.1))).trans (hHeld.2.2.2.1)
               have HS4_ := (hb.cell (World.block_lt_of_cell? _ _ (hHeld.2.2.2.2.1))).trans (hHeld.2.2.2.2.1)
               have HS5_ := (hb.cell (World.block_lt_of_cell? _ _ (hHeld.2.2.2.2.2.1))).trans (hHeld.2.2.2.2.2.1)
               have HS6_ := (hb.cell (World.block_lt_of_cell? _ _ (hHeld.2.2.2.2.2.2.1))).trans (hHeld.2.2.2.2.2.2.1)
               have HS7_ := (hb.cell (World.block_lt_of_cell? _ _ (hHeld.2.2.2.2.2.2.2.1))).trans (hHeld.2.2.2.2.2.2.2.1)
               have HS8_ := (hb.cell (World.block_lt_of_cell? _ _ (hHeld.2.2.2.2.2.2.2.2.1))).trans (hHeld.2.2.2.2.2.2.2.2.1)
               have HS9_ := (hb.cell (World.block_lt_of_cell? _ _ (hHeld.2.2.2.2.2.2.2.2.2.1))).trans (hHeld.2.2.2.2.2.2.2.2.2.1)
               have HS10_ := (hb.cell (World.block_lt_of_cell? _ _ (hHeld.2.2.2.2.2.2.2.2.2.2.1))).trans (hHeld.2.2.2.2.2.2.2.2.2.2.1)
               have HS11_ := (hb.cell (World.block_lt_of_cell? _ _ (hHeld.2.2.2.2.2.2.2.2.2.2.2.1))).trans (hHeld.2.2.2.2.2.2.2.2.2.2.2.1)
               have HS12_ := (hb.cell (World.block_lt_of_cell? _ _ (hHeld.2.2.2.2.2.2.2.2.2.2.2.2.1))).trans (hHeld.2.2.2.2.2.2.2.2.2.2.2.2.1)
               have HS13_ := (hb.cell (World.block_lt_of_cell? _ _ (hHeld.2.2.2.2.2.2.2.2.2.2.2.2.2))).trans (hHeld.2.2.2.2.2.2.2.2.2.2.2.2.2)
               refine ⟨_, rfl, ?_⟩
               have n0_ := aM (Kd.R_below (xR HO_3.out) hb)
               have n1_ := aM (Kd.R_below (xR HO_4.out) hb)
               have n2_ := aM (below_step (xB HB.out) hb)
               clear HO_3
               clear HO_4
               clear HB
               have HO_3 := n0_
               have HO_4 := n1_
               have HB := n2_
               clear n0_ n1_ n2_
               (try clear hb)
               (try clear hb2)
               (try clear hk)
               (try clear hi)
               refine hK.out _ _ ⟨HS0_, HS1_, HS2_, HS3_, HS4_, HS5_, HS6_, HS7_, HS8_, HS9_, HS10_, HS11_, HS12_, HS13_⟩ (fun hHeld => ?_)
               clear hK K
               refine norm_ (a' := ?_) ?_ ?_
               rotate_left
               ·
                show Act.put _ (some 37) _ = _
                simp only [xQ, i64_w, i32_w]
                rfl
               refine pure_ (i := 20) (N := some 38) (v := ?_) (a' := ?_) b93_ rfl rfl (any_of HT_.out (by kernel_rfl)) (fun _ _ _ h => h) (Or.inl ⟨by rfl, ?_⟩) ?_ ?_; rotate_left; (· intro w'; go_simp; with_reducible rfl); rotate_left; (· simp only [xQ, i64_w, i32_w]; rfl)
               refine pure_ (i := 21) (N := some 39) (v := ?_) (a' := ?_) b94_ rfl rfl (any_of HT_.out (by kernel_rfl)) (fun _ _ _ h => h) (Or.inl ⟨by rfl, ?_⟩) ?_ ?_; rotate_left; (· intro w'; go_simp; with_reducible rfl); rotate_left; (· simp only [xQ, i64_w, i32_w]; rfl)
               refine pure_ (i := 22) (N := some 40) (v := ?_) (a' := ?_) b95_ rfl rfl (any_of HT_.out (by kernel_rfl)) (fun _ _ _ h => h) (Or.inl ⟨by rfl, ?_⟩) ?_ ?_; rotate_left; (· intro w'; go_simp; with_reducible rfl); rotate_left; (· simp only [xQ, i64_w, i32_w]; rfl)
               refine pure_ (i := 23) (N := some 41) (v := ?_) (a' := ?_) b96_ rfl rfl (any_of HT_.out (by kernel_rfl)) (fun _ _ _ h => h) (Or.inl ⟨by rfl, ?_⟩) ?_ ?_; rotate_left; (· intro w'; go_simp; with_reducible rfl); rotate_left; (· simp only [xQ, i64_w, i32_w]; rfl)
               refine pure_ (i := 24) (N := some 42) (v := ?_) (a' := ?_) b97_ rfl rfl (any_of HT_.out (by kernel_rfl)) (fun _ _ _ h => h) (Or.inl ⟨by rfl, ?_⟩) ?_ ?_; rotate_left; (· intro w'; go_simp; with_reducible rfl); rotate_left; (· simp only [xQ, i64_w, i32_w]; rfl)
               refine pure_ (i := 25) (N := some 43) (v := ?_) (a' := ?_) b98_ rfl rfl (any_of HT_.out (by kernel_rfl)) (fun _ _ _ h => h) (Or.inl ⟨by rfl, ?_⟩) ?_ ?_; rotate_left; (· intro w'; go_simp; with_reducible rfl); rotate_left; (· simp only [xQ, i64_w, i32_w]; rfl)
               refine pure_ (i := 28) (N := some 46) (v := ?_) (a' := ?_) b99_ rfl rfl (any_of HT_.out (by kernel_rfl)) (fun _ _ _ h => h) (Or.inl ⟨by rfl, ?_⟩) ?_ ?_; rotate_left; (· intro w'; go_simp; with_reducible rfl); rotate_left; (· simp only [xQ, i64_w, i32_w]; rfl)
               refine pure_ (i := 29) (N := some 47) (v := ?_) (a' := ?_) b100_ rfl rfl (any_of HT_.out (by kernel_rfl)) (fun _ _ _ h => h) (Or.inl ⟨by rfl, ?_⟩) ?_ ?_; rotate_left; (· intro w'; go_simp; with_reducible rfl); rotate_left; (· simp only [xQ, i64_w, i32_w]; rfl)
               refine pure_ (i := 30) (N := some 48) (v := ?_) (a' := ?_) b101_ rfl rfl (any_of HT_.out (by kernel_rfl)) (fun _ _ _ h => h) (Or.inl ⟨by rfl, ?_⟩) ?_ ?_; rotate_left; (· intro w'; go_simp; with_reducible rfl); rotate_left; (· simp only [xQ, i64_w, i32_w]; rfl)
               refine take_ (i := 26) (N := some 44) (v := ?_) (a' := ?_) b103_ rfl rfl (take_ofW HT_.out HW_.out (by kernel_rfl)) (fun _ _ _ h => h) (Or.inl ⟨by rfl, ?_⟩) hHeld ?_ ?_; rotate_left; (· rintro w' ⟨s0, s1, s2, s3, s4, s5, s6, s7, s8, s9, s10, s11, s12, s13⟩; go_simp; with_reducible rfl); rotate_left; (· simp only [xQ, i64_w, i32_w]; rfl)
               refine take_ (i := 31) (N := some 49) (v := ?_) (a' := ?_) b104_ rfl rfl (take_ofW HT_.out HW_.out (by kernel_rfl)) (fun _ _ _ h => h) (Or.inl ⟨by rfl, ?_⟩) hHeld ?_ ?_; rotate_left; (· rintro w' ⟨s0, s1, s2, s3, s4, s5, s6, s7, s8, s9, s10, s11, s12, s13⟩; go_simp; with_reducible rfl); rotate_left; (· simp only [xQ, i64_w, i32_w]; rfl)
               refine one_ (i := 27) (N := some 45) b109_ rfl rfl (one_of HT_.out (by kernel_rfl)) (by decide) (fun K hK => ?_)
               refine goes_ Try.func53 (by kernel_rfl) rfl #[.agg #[.string ((rd_T85 x3_1 x6_2).f0), .int .i64 ((rd_T85 x3_1 x6_2).f1)]] (by rfl) rfl rfl (by (try simp only [List.map_toArray, List.map_cons, List.map_nil]); first | done | rfl | (simp only [List.length_drop, List.length_take]; rfl)) ?_
               with_reducible refine (r06_worth.calls ((rd_T85 x3_1 x6_2).f0) ((rd_T85 x3_1 x6_2).f1) t395 _ A21.out).mono ?_
               rintro e w35 ⟨rfl, hb⟩
               have HS0_ := (hb.cell (World.block_lt_of_cell? _ _ (hHeld.1))).trans (hHeld.1)
               have HS1_ := (hb.cell (World.block_lt_of_cell? _ _ (hHeld.2.1))).trans (hHeld.2.1)
               have HS2_ := (hb.cell (World.block_lt_of_cell? _ _ (hHeld.2.2.1))).trans (hHeld.2.2.1)
               have HS3_ := (hb.cell (World.block_lt_of_cell? _ _ (hHeld.2.2.2.1))).trans (hHeld.2.2.2.1)
               have HS4_ := (hb.cell (World.block_lt_of_cell? _ _ (hHeld.2.2.2.2.1))).trans (hHeld.2.2.2.2.1)
               have HS5_ := (hb.cell (World.block_lt_of_cell? _ _ (hHeld.2.2.2.2.2.1))).trans (hHeld.2.2.2.2.2.1)
               have HS6_ := (hb.cell (World.block_lt_of_cell? _ _ (hHeld.2.2.2.2.2.2.1))).trans (hHeld.2.2.2.2.2.2.1)
               have HS7_ := (hb.cell (World.block_lt_of_cell? _ _ (hHeld.2.2.2.2.2.2.2.1))).trans (hHeld.2.2.2.2.2.2.2.1)
               have HS8_ := (hb.cell (World.block_lt_of_cell? _ _ (hHeld.2.2.2.2.2.2.2.2.1))).trans (hHeld.2.2.2.2.2.2.2.2.1)
               have HS9_ := (hb.cell (World.block_lt_of_cell? _ _ (hHeld.2.2.2.2.2.2.2.2.2.1))).trans (hHeld.2.2.2.2.2.2.2.2.2.1)
               have HS10_ := (hb.cell (World.block_lt_of_cell? _ _ (hHeld.2.2.2.2.2.2.2.2.2.2.1))).trans (hHeld.2.2.2.2.2.2.2.2.2.2.1)
               have HS11_ := (hb.cell (World.block_lt_of_cell? _ _ (hHeld.2.2.2.2.2.2.2.2.2.2.2.1))).trans (hHeld.2.2.2.2.2.2.2.2.2.2.2.1)
               have HS12_ := (hb.cell (World.block_lt_of_cell? _ _ (hHeld.2.2.2.2.2.2.2.2.2.2.2.2.1))).trans (hHeld.2.2.2.2.2.2.2.2.2.2.2.2.1)
               have HS13_ := (hb.cell (World.block_lt_of_cell? _ _ (hHeld.2.2.2.2.2.2.2.2.2.2.2.2.2))).trans (hHeld.2.2.2.2.2.2.2.2.2.2.2.2.2)
               refine ⟨_, rfl, ?_⟩
               have n0_ := aM (Kd.R_below (xR HO_3.out) hb)
               have n1_ := aM (Kd.R_below (xR HO_4.out) hb)
               have n2_ := aM (below_step (xB HB.out) hb)
               clear HO_3
               clear HO_4
               clear HB
               have HO_3 := n0_
               have HO_4 := n1_
               have HB := n2_
               clear n0_ n1_ n2_
               (try clear hb)
               (try clear hb2)
               (try clear hk)
               (try clear hi)
               refine hK.out _ _ ⟨HS0_, HS1_, HS2_, HS3_, HS4_, HS5_, HS6_, HS7_, HS8_, HS9_, HS10_, HS11_, HS12_, HS13_⟩ (fun hHeld => ?_)
               clear hK K
               refine norm_ (a' := ?_) ?_ ?_
               rotate_left
               ·
                show Act.put _ (some 45) _ = _
                simp only [xQ, i64_w, i32_w]
                rfl
               refine one_ (i := 32) (N := some 50) b110_ rfl rfl (one_of HT_.out (by kernel_rfl)) (by decide) (fun K hK => ?_)
               refine goes_ Try.func53 (by kernel_rfl) rfl #[.agg #[.string ((rd_T85 x3_1 x5_2).f0), .int .i64 ((rd_T85 x3_1 x5_2).f1)]] (by rfl) rfl rfl (by (try simp only [List.map_toArray, List.map_cons, List.map_nil]); first | done | rfl | (simp only [List.length_drop, List.length_take]; rfl)) ?_
               with_reducible refine (r06_worth.calls ((rd_T85 x3_1 x5_2).f0) ((rd_T85 x3_1 x5_2).f1) t397 _ A22.out).mono ?_
               rintro e w36 ⟨rfl, hb⟩
               have HS0_ := (hb.cell (World.block_lt_of_cell? _ _ (hHeld.1))).trans (hHeld.1)
               have HS1_ := (hb.cell (World.block_lt_of_cell? _ _ (hHeld.2.1))).trans (hHeld.2.1)
               have HS2_ := (hb.cell (World.block_lt_of_cell? _ _ (hHeld.2.2.1))).trans (hHeld.2.2.1)
               have HS3_ := (hb.cell (World.block_lt_of_cell? _ _ (hHeld.2.2.2.1))).trans (hHeld.2.2.2.1)
               have HS4_ := (hb.cell (World.block_lt_of_cell? _ _ (hHeld.2.2.2.2.1))).trans (hHeld.2.2.2.2.1)
               have HS5_ := (hb.cell (World.block_lt_of_cell? _ _ (hHeld.2.2.2.2.2.1))).trans (hHeld.2.2.2.2.2.1)
               have HS6_ := (hb.cell (World.block_lt_of_cell? _ _ (hHeld.2.2.2.2.2.2.1))).trans (hHeld.2.2.2.2.2.2.1)
               have HS7_ := (hb.cell (World.block_lt_of_cell? _ _ (hHeld.2.2.2.2.2.2.2.1))).trans (hHeld.2.2.2.2.2.2.2.1)
               have HS8_ := (hb.cell (World.block_lt_of_cell? _ _ (hHeld.2.2.2.2.2.2.2.2.1))).trans (hHeld.2.2.2.2.2.2.2.2.1)
               have HS9_ := (hb.cell (World.block_lt_of_cell? _ _ (hHeld.2.2.2.2.2.2.2.2.2.1))).trans (hHeld.2.2.2.2.2.2.2.2.2.1)
               have HS10_ := (hb.cell (World.block_lt_of_cell? _ _ (hHeld.2.2.2.2.2.2.2.2.2.2.1))).trans (hHeld.2.2.2.2.2.2.2.2.2.2.1)
               have HS11_ := (hb.cell (World.block_lt_of_cell? _ _ (hHeld.2.2.2.2.2.2.2.2.2.2.2.1))).trans (hHeld.2.2.2.2.2.2.2.2.2.2.2.1)
               have HS12_ := (hb.cell (World.block_lt_of_cell? _ _ (hHeld.2.2.2.2.2.2.2.2.2.2.2.2.1))).trans (hHeld.2.2.2.2.2.2.2.2.2.2.2.2.1)
               have HS13_ := (hb.cell (World.block_lt_of_cell? _ _ (hHeld.2.2.2.2.2.2.2.2.2.2.2.2.2))).trans (hHeld.2.2.2.2.2.2.2.2.2.2.2.2.2)
               refine ⟨_, rfl, ?_⟩
               have n0_ := aM (Kd.R_below (xR HO_3.out) hb)
               have n1_ := aM (Kd.R_below (xR HO_4.out) hb)
               have n2_ := aM (below_step (xB HB.out) hb)
               clear HO_3
               clear HO_4
               clear HB
               have HO_3 := n0_
               have HO_4 := n1_
               have HB := n2_
               clear n0_ n1_ n2_
               (try clear hb)
               (try clear hb2)
               (try clear hk)
               (try clear hi)
               refine hK.out _ _ ⟨HS0_, HS1_, HS2_, HS3_, HS4_, HS5_, HS6_, HS7_, HS8_, HS9_, HS10_, HS11_, HS12_, HS13_⟩ (fun hHeld => ?_)
               clear hK K
               refine norm_ (a' := ?_) ?_ ?_
               rotate_left
               ·
                show Act.put _ (some 50) _ = _
                simp only [xQ, i64_w, i32_w]
                rfl
               refine pure_ (i := 33) (N := some 51) (v := ?_) (a' := ?_) b111_ rfl rfl (any_of HT_.out (by kernel_rfl)) (fun _ _ _ h => h) (Or.inl ⟨by rfl, ?_⟩) ?_ ?_; rotate_left; (· intro w'; go_simp; with_reducible rfl); rotate_left; (· simp only [xQ, i64_w, i32_w]; rfl)
               refine pure_ (i := 34) (N := some 52) (v := ?_) (a' := ?_) b112_ rfl rfl (any_of HT_.out (by kernel_rfl)) (fun _ _ _ h => h) (Or.inl ⟨by rfl, ?_⟩) ?_ ?_; rotate_left; (· intro w'; go_simp; with_reducible rfl); rotate_left; (· simp only [xQ, i64_w, i32_w]; rfl)
               refine pure_ (i := 35) (N := some 53) (v := ?_) (a' := ?_) b113_ rfl rfl (any_of HT_.out (by kernel_rfl)) (fun _ _ _ h => h) (Or.inl ⟨by rfl, ?_⟩) ?_ ?_; rotate_left; (· intro w'; go_simp; with_reducible rfl); rotate_left; (· simp only [xQ, i64_w, i32_w]; rfl)
               refine pure_ (i := 36) (N := some 54) (v := ?_) (a' := ?_) b114_ rfl rfl (any_of HT_.out (by kernel_rfl)) (fun _ _ _ h => h) (Or.inl ⟨by rfl, ?_⟩) ?_ ?_; rotate_left; (· intro w'; go_simp; with_reducible rfl); rotate_left; (· simp only [xQ, i64_w, i32_w]; rfl)
               refine pure_ (i := 37) (N := some 55) (v := ?_) (a' := ?_) b115_ rfl rfl (any_of HT_.out (by kernel_rfl)) (fun _ _ _ h => h) (Or.inl ⟨by rfl, ?_⟩) ?_ ?_; rotate_left; (· intro w'; go_simp; with_reducible rfl); rotate_left; (· simp only [xQ, i64_w, i32_w]; rfl)
               refine pure_ (i := 38) (N := some 56) (v := ?_) (a' := ?_) b116_ rfl rfl (any_of HT_.out (by kernel_rfl)) (fun _ _ _ h => h) (Or.inl ⟨by rfl, ?_⟩) ?_ ?_; rotate_left; (· intro w'; go_simp; with_reducible rfl); rotate_left; (· simp only [xQ, i64_w, i32_w]; rfl)
               refine pure_ (i := 40) (N := some 58) (v := ?_) (a' := ?_) b117_ rfl rfl (any_of HT_.out (by kernel_rfl)) (fun _ _ _ h => h) (Or.inl ⟨by rfl, ?_⟩) ?_ ?_; rotate_left; (· intro w'; go_simp; with_reducible rfl); rotate_left; (· simp only [xQ, i64_w, i32_w]; rfl)
               refine pure_ (i := 41) (N := some 59) (v := ?_) (a' := ?_) b118_ rfl rfl (any_of HT_.out (by kernel_rfl)) (fun _ _ _ h => h) (Or.inl ⟨by rfl, ?_⟩) ?_ ?_; rotate_left; (· intro w'; go_simp; with_reducible rfl); rotate_left; (· simp only [xQ, i64_w, i32_w]; rfl)
               refine pure_ (i := 42) (N := some 60) (v := ?_) (a' := ?_) b119_ rfl rfl (any_of HT_.out (by kernel_rfl)) (fun _ _ _ h => h) (Or.inl ⟨by rfl, ?_⟩) ?_ ?_; rotate_left; (· intro w'; go_simp; with_reducible rfl); rotate_left; (· simp only [xQ, i64_w, i32_w]; rfl)
               refine pure_ (i := 43) (N := some 61) (v := ?_) (a' := ?_) b120_ rfl rfl (any_of HT_.out (by kernel_rfl)) (fun _ _ _ h => h) (Or.inl ⟨by rfl, ?_⟩) ?_ ?_; rotate_left; (· intro w'; go_simp; with_reducible rfl); rotate_left; (· simp only [xQ, i64_w, i32_w]; rfl)
               refine take_ (i := 39) (N := some 57) (v := ?_) (a' := ?_) b125_ rfl rfl (take_ofW HT_.out HW_.out (by kernel_rfl)) (fun _ _ _ h => h) (Or.inl ⟨by rfl, ?_⟩) hHeld ?_ ?_; rotate_left; (· rintro w' ⟨s0, s1, s2, s3, s4, s5, s6, s7, s8, s9, s10, s11, s12, s13⟩; go_simp; with_reducible rfl); rotate_left; (· simp only [xQ, i64_w, i32_w]; rfl)
               refine take_ (i := 44) (N := some 62) (v := ?_) (a' := ?_) b126_ rfl rfl (take_ofW HT_.out HW_.out (by kernel_rfl)) (fun _ _ _ h => h) (Or.inl ⟨by rfl, ?_⟩) hHeld ?_ ?_; rotate_left; (· rintro w' ⟨s0, s1, s2, s3, s4, s5, s6, s7, s8, s9, s10, s11, s12, s13⟩; go_simp; with_reducible rfl); rotate_left; (· simp only [xQ, i64_w, i32_w]; rfl)
               refine pure_ (i := 45) (N := some 63) (v := ?_) (a' := ?_) b127_ rfl rfl (any_of HT_.out (by kernel_rfl)) (fun _ _ _ h => h) (Or.inl ⟨by rfl, ?_⟩) ?_ ?_; rotate_left; (· intro w'; go_simp; with_reducible rfl); rotate_left; (· simp only [xQ, i64_w, i32_w]; rfl)
               refine pure_ (i := 46) (N := some 64) (v := ?_) (a' := ?_) b128_ rfl rfl (any_of HT_.out (by kernel_rfl)) (fun _ _ _ h => h) (Or.inl ⟨by rfl, ?_⟩) ?_ ?_; rotate_left; (· intro w'; go_simp; with_reducible rfl); rotate_left; (· simp only [xQ, i64_w, i32_w]; rfl)
               refine pure_ (i := 47) (N := some 65) (v := ?_) (a' := ?_) b129_ rfl rfl (any_of HT_.out (by kernel_rfl)) (fun _ _ _ h => h) (Or.inl ⟨by rfl, ?_⟩) ?_ ?_; rotate_left; (· intro w'; go_simp; with_reducible rfl); rotate_left; (· simp only [xQ, i64_w, i32_w]; rfl)
               refine pure_ (i := 48) (N := some 66) (v := ?_) (a' := ?_) b130_ rfl rfl (any_of HT_.out (by kernel_rfl)) (fun _ _ _ h => h) (Or.inl ⟨by rfl, ?_⟩) ?_ ?_; rotate_left; (· intro w'; go_simp; with_reducible rfl); rotate_left; (· simp only [xQ, i64_w, i32_w]; rfl)
               refine done_ (done_of HT_.out (by kernel_rfl)) ?_
               try go_wp2
               go_roundg k2
               case measure => have := HK1.out; have := HK2.out; omega
               case rel => exact ⟨(x5_2), (wrap64 (x6_2 + 1)), (by first | rfl | (simp; done) | (simp [*]; done)), (by first | rfl | (simp; done) | (simp [*]; done)), H', ⟨by have := HK1.out; have := HK2.out; omega⟩, ⟨by (with_reducible repeat (first | apply Kd.R_alloc | apply Kd.R_drewN | apply Kd.R_drew)); exact HO_3.out⟩, ⟨by (with_reducible repeat (first | apply Kd.R_alloc | apply Kd.R_drewN | apply Kd.R_drew)); exact HO_4.out⟩, ⟨xB HB.out⟩⟩
             ·
              rw [if_neg c23] at H
              have c23b0 : (t395 == t397) = false := beq_eq_false_iff_ne.mpr c23
              have c23b1 : (t395 != t397) = true := bne_iff_ne.mpr c23
              have H' := aM H
              clear H
              obtain ⟨Ao37, co37, eo37⟩ := Kd.R_slice HO_3.out
              subst eo37
              try go_wp2
              have n0_ := aM (Kd.R_drew HO_3.out)
              have n1_ := aM (Kd.R_drew HO_4.out)
              have n2_ := aM (below_drew1 HB.out)
              clear HO_3
              clear HO_4
              clear HB
              have HO_3 := n0_
              have HO_4 := n1_
              have HB := n2_
              clear n0_ n1_ n2_
              have p389 : 0 ≤ (x6_2 : Int) := of_decide_eq_true (by first | (with_reducible assumption) | assumption)
              have q389 : x6_2 < (x3_1.length : Int) := of_decide_eq_true (by first | (with_reducible assumption) | assumption)
              obtain ⟨ad389, e389, hx389_0, hx389_1⟩ := at_T85 (Kd.R_reads' HO_3.out).2.2 x6_2 p389 q389
              cases e389
              replace p389 := eq_true p389
              replace q389 := eq_true q389
              have p390 : 0 ≤ (x6_2 : Int) := of_decide_eq_true (by first | (with_reducible assumption) | assumption)
              have q390 : x6_2 < (x3_1.length : Int) := of_decide_eq_true (by first | (with_reducible assumption) | assumption)
              obtain ⟨ad390, e390, hx390_0, hx390_1⟩ := at_T85 (Kd.R_reads' HO_3.out).2.2 x6_2 p390 q390
              obtain rfl : ad389 = ad390 := (by injection e390)
              replace p390 := eq_true p390
              replace q390 := eq_true q390
              have p392 : 0 ≤ (x5_2 : Int) := of_decide_eq_true (by first | (with_reducible assumption) | assumption)
              have q392 : x5_2 < (x3_1.length : Int) := of_decide_eq_true (by first | (with_reducible assumption) | assumption)
              obtain ⟨ad392, e392, hx392_0, hx392_1⟩ := at_T85 (Kd.R_reads' HO_3.out).2.2 x5_2 p392 q392
              obtain rfl : ad389 = ad392 := (by injection e392)
              replace p392 := eq_true p392
              replace q392 := eq_true q392
              have p394 : 0 ≤ (x6_2 : Int) := of_decide_eq_true (by first | (with_reducible assumption) | assumption)
              have q394 : x6_2 < (x3_1.length : Int) := of_decide_eq_true (by first | (with_reducible assumption) | assumption)
              obtain ⟨ad394, e394, hx394_0, hx394_1⟩ := at_T85 (Kd.R_reads' HO_3.out).2.2 x6_2 p394 q394
              obtain rfl : ad389 = ad394 := (by injection e394)
              replace p394 := eq_true p394
              replace q394 := eq_true q394
              have p396 : 0 ≤ (x5_2 : Int) := of_decide_eq_true (by first | (with_reducible assumption) | assumption)
              have q396 : x5_2 < (x3_1.length : Int) := of_decide_eq_true (by first | (with_reducible assumption) | assumption)
              obtain ⟨ad396, e396, hx396_0, hx396_1⟩ := at_T85 (Kd.R_reads' HO_3.out).2.2 x5_2 p396 q396
              obtain rfl : ad389 = ad396 := (by injection e396)
              replace p396 := eq_true p396
              replace q396 := eq_true q396
              refine start_ (n := 49) (S := fun w' => w'.cell? (ad389.add ((x6_2).toNat * 2)) = some (.string ((rd_T85 x3_1 x6_2).f0)) ∧ w'.cell? ⟨(ad389.add ((x6_2).toNat * 2)).block, (ad389.add ((x6_2).toNat * 2)).off + 1, none⟩ = some (.int .i64 ((rd_T85 x3_1 x6_2).f1)) ∧ w'.cell? (ad389.add ((x6_2).toNat * 2)) = some (.string ((rd_T85 x3_1 x6_2).f0)) ∧ w'.cell? ⟨(ad389.add ((x6_2).toNat * 2)).block, (ad389.add ((x6_2).toNat * 2)).off + 1, none⟩ = some (.int .i64 ((rd_T85 x3_1 x6_2).f1)) ∧ w'.cell? (ad389.add ((x5_2).toNat * 2)) = some (.string ((rd_T85 x3_1 x5_2).f0)) ∧ w'.cell? ⟨(ad389.add ((x5_2).toNat * 2)).block, (ad389.add ((x5_2).toNat * 2)).off + 1, none⟩ = some (.int .i64 ((rd_T85 x3_1 x5_2).f1)) ∧ w'.cell? (ad389.add ((x6_2).toNat * 2)) = some (.string ((rd_T85 x3_1 x6_2).f0)) ∧ w'.cell? ⟨(ad389.add ((x6_2).toNat * 2)).block, (ad389.add ((x6_2).toNat * 2)).off + 1, none⟩ = some (.int .i64 ((rd_T85 x3_1 x6_2).f1)) ∧ w'.cell? (ad389.add ((x5_2).toNat * 2)) = some (.string ((rd_T85 x3_1 x5_2).f0)) ∧ w'.cell? ⟨(ad389.add ((x5_2).toNat * 2)).block, (ad389.add ((x5_2).toNat * 2)).off + 1, none⟩ = some (.int .i64 ((rd_T85 x3_1 x5_2).f1))) (ds := []) b67_ (by kernel_rfl) rfl rfl ⟨hx389_0, hx389_1, hx390_0, hx390_1, hx392_0, hx392_1, hx394_0, hx394_1, hx396_0, hx396_1⟩ (fun hHeld => ?_); refine with_tabW r06_Train.tab8 r06_Train.bits8 (fun HT_ HW_ => ?_)
              generalize wr.drew = w38 at HO_3 HO_4 HB hx389_0 hx389_1 hx390_0 hx390_1 hx392_0 hx392_1 hx394_0 hx394_1 hx396_0 hx396_1 hHeld ⊢
              refine pure_ (i := 0) (N := some 18) (v := ?_) (a' := ?_) b68_ rfl rfl (any_of HT_.out (by kernel_rfl)) (fun _ _ _ h => h) (Or.inl ⟨by rfl, ?_⟩) ?_ ?_; rotate_left; (· intro w'; go_simp; with_reducible rfl); rotate_left; (· simp only [xQ, i64_w, i32_w]; rfl)
              refine pure_ (i := 1) (N := some 19) (v := ?_) (a' := ?_) b69_ rfl rfl (any_of HT_.out (by kernel_rfl)) (fun _ _ _ h => h) (Or.inl ⟨by rfl, ?_⟩) ?_ ?_; rotate_left; (· intro w'; go_simp; with_reducible rfl); rotate_left; (· simp only [xQ, i64_w, i32_w]; rfl)
              refine pure_ (i := 2) (N := some 20) (v := ?_) (a' := ?_) b70_ rfl rfl (any_of HT_.out (by kernel_rfl)) (fun _ _ _ h => h) (Or.inl ⟨by rfl, ?_⟩) ?_ ?_; rotate_left; (· intro w'; go_simp; with_reducible rfl); rotate_left; (· simp only [xQ, i64_w, i32_w]; rfl)
              refine pure_ (i := 3) (N := some 21) (v := ?_) (a' := ?_) b71_ rfl rfl (any_of HT_.out (by kernel_rfl)) (fun _ _ _ h => h) (Or.inl ⟨by rfl, ?_⟩) ?_ ?_; rotate_left; (· intro w'; go_simp; with_reducible rfl); rotate_left; (· simp only [xQ, i64_w, i32_w]; rfl)
              refine take_ (i := 4) (N := some 22) (v := ?_) (a' := ?_) b72_ rfl rfl (take_ofW HT_.out HW_.out (by kernel_rfl)) (fun _ _ _ h => h) (Or.inl ⟨by rfl, ?_⟩) hHeld ?_ ?_; rotate_left; (· rintro w' ⟨s0, s1, s2, s3, s4, s5, s6, s7, s8, s9⟩; go_simp; with_reducible rfl); rotate_left; (· simp only [xQ, i64_w, i32_w]; rfl)
              refine pure_ (i := 5) (N := some 23) (v := ?_) (a' := ?_) b73_ rfl rfl (any_of HT_.out (by kernel_rfl)) (fun _ _ _ h => h) (Or.inl ⟨by rfl, ?_⟩) ?_ ?_; rotate_left; (· intro w'; go_simp; with_reducible rfl); rotate_left; (· simp only [xQ, i64_w, i32_w]; rfl)
              refine pure_ (i := 6) (N := some 24) (v := ?_) (a' := ?_) b74_ rfl rfl (any_of HT_.out (by kernel_rfl)) (fun _ _ _ h => h) (Or.inl ⟨by rfl, ?_⟩) ?_ ?_; rotate_left; (· intro w'; go_simp; with_reducible rfl); rotate_left; (· simp only [xQ, i64_w, i32_w]; rfl)
              refine pure_ (i := 7) (N := some 25) (v := ?_) (a' := ?_) b75_ rfl rfl (any_of HT_.out (by kernel_rfl)) (fun _ _ _ h => h) (Or.inl ⟨by rfl, ?_⟩) ?_ ?_; rotate_left; (· intro w'; go_simp; with_reducible rfl); rotate_left; (· simp only [xQ, i64_w, i32_w]; rfl)
              refine pure_ (i := 8) (N := some 26) (v := ?_) (a' := ?_) b76_ rfl rfl (any_of HT_.out (by kernel_rfl)) (fun _ _ _ h => h) (Or.inl ⟨by rfl, ?_⟩) ?_ ?_; rotate_left; (· intro w'; go_simp; with_reducible rfl); rotate_left; (· simp only [xQ, i64_w, i32_w]; rfl)
              refine pure_ (i := 9) (N := some 27) (v := ?_) (a' := ?_) b77_ rfl rfl (any_of HT_.out (by kernel_rfl)) (fun _ _ _ h => h) (Or.inl ⟨by rfl, ?_⟩) ?_ ?_; rotate_left; (· intro w'; go_simp; with_reducible rfl); rotate_left; (· simp only [xQ, i64_w, i32_w]; rfl)
              refine pure_ (i := 10) (N := some 28) (v := ?_) (a' := ?_) b78_ rfl rfl (any_of HT_.out (by kernel_rfl)) (fun _ _ _ h => h) (Or.inl ⟨by rfl, ?_⟩) ?_ ?_; rotate_left; (· intro w'; go_simp; with_reducible rfl); rotate_left; (· simp only [xQ, i64_w, i32_w]; rfl)
              refine pure_ (i := 11) (N := some 29) (v := ?_) (a' := ?_) b79_ rfl rfl (any_of HT_.out (by kernel_rfl)) (fun _ _ _ h => h) (Or.inl ⟨by rfl, ?_⟩) ?_ ?_; rotate_left; (· intro w'; go_simp; with_reducible rfl); rotate_left; (· simp only [xQ, i64_w, i32_w]; rfl)
              refine pure_ (i := 12) (N := some 30) (v := ?_) (a' := ?_) b80_ rfl rfl (any_of HT_.out (by kernel_rfl)) (fun _ _ _ h => h) (Or.inl ⟨by rfl, ?_⟩) ?_ ?_; rotate_left; (· intro w'; go_simp; with_reducible rfl); rotate_left; (· simp only [xQ, i64_w, i32_w]; rfl)
              refine pure_ (i := 15) (N := some 33) (v := ?_) (a' := ?_) b81_ rfl rfl (any_of HT_.out (by kernel_rfl)) (fun _ _ _ h => h) (Or.inl ⟨by rfl, ?_⟩) ?_ ?_; rotate_left; (· intro w'; go_simp; with_reducible rfl); rotate_left; (· simp only [xQ, i64_w, i32_w]; rfl)
              refine pure_ (i := 16) (N := some 34) (v := ?_) (a' := ?_) b82_ rfl rfl (any_of HT_.out (by kernel_rfl)) (fun _ _ _ h => h) (Or.inl ⟨by rfl, ?_⟩) ?_ ?_; rotate_left; (· intro w'; go_simp; with_reducible rfl); rotate_left; (· simp only [xQ, i64_w, i32_w]; rfl)
              refine pure_ (i := 17) (N := some 35) (v := ?_) (a' := ?_) b83_ rfl rfl (any_of HT_.out (by kernel_rfl)) (fun _ _ _ h => h) (Or.inl ⟨by rfl, ?_⟩) ?_ ?_; rotate_left; (· intro w'; go_simp; with_reducible rfl); rotate_left; (· simp only [xQ, i64_w, i32_w]; rfl)
              refine take_ (i := 13) (N := some 31) (v := ?_) (a' := ?_) b85_ rfl rfl (take_ofW HT_.out HW_.out (by kernel_rfl)) (fun _ _ _ h => h) (Or.inl ⟨by rfl, ?_⟩) hHeld ?_ ?_; rotate_left; (· rintro w' ⟨s0, s1, s2, s3, s4, s5, s6, s7, s8, s9⟩; go_simp; with_reducible rfl); rotate_left; (· simp only [xQ, i64_w, i32_w]; rfl)
              refine take_ (i := 18) (N := some 36) (v := ?_) (a' := ?_) b86_ rfl rfl (take_ofW HT_.out HW_.out (by kernel_rfl)) (fun _ _ _ h => h) (Or.inl ⟨by rfl, ?_⟩) hHeld ?_ ?_; rotate_left; (· rintro w' ⟨s0, s1, s2, s3, s4, s5, s6, s7, s8, s9⟩; go_simp; with_reducible rfl); rotate_left; (· simp only [xQ, i64_w, i32_w]; rfl)
              refine one_ (i := 14) (N := some 32) b91_ rfl rfl (one_of HT_.out (by kernel_rfl)) (by decide) (fun K hK => ?_)
              refine goes_ Try.func53 (by kernel_rfl) rfl #[.agg #[.string ((rd_T85 x3_1 x6_2).f0), .int .i64 ((rd_T85 x3_1 x6_2).f1)]] (by rfl) rfl rfl (by (try simp only [List.map_toArray, List.map_cons, List.map_nil]); first | done | rfl | (simp only [List.length_drop, List.length_take]; rfl)) ?_
              with_reducible refine (r06_worth.calls ((rd_T85 x3_1 x6_2).f0) ((rd_T85 x3_1 x6_2).f1) t391 _ A12.out).mono ?_
              rintro e w39 ⟨rfl, hb⟩
              have HS0_ := (hb.cell (World.block_lt_of_cell? _ _ (hHeld.1))).trans (hHeld.1)
              have HS1_ := (hb.cell (World.block_lt_of_cell? _ _ (hHeld.2.1))).trans (hHeld.2.1)
              have HS2_ := (hb.cell (World.block_lt_of_cell? _ _ (hHeld.2.2.1))).trans (hHeld.2.2.1)
              have HS3_ := (hb.cell (World.block_lt_of_cell? _ _ (hHeld.2.2.2.1))).trans (hHeld.2.2.2.1)
              have HS4_ := (hb.cell (World.block_lt_of_cell? _ _ (hHeld.2.2.2.2.1))).trans (hHeld.2.2.2.2.1)
              have HS5_ := (hb.cell (World.block_lt_of_cell? _ _ (hHeld.2.2.2.2.2.1))).trans (hHeld.2.2.2.2.2.1)
              have HS6_ := (hb.cell (World.block_lt_of_cell? _ _ (hHeld.2.2.2.2.2.2.1))).trans (hHeld.2.2.2.2.2.2.1)
              have HS7_ := (hb.cell (World.block_lt_of_cell? _ _ (hHeld.2.2.2.2.2.2.2.1))).trans (hHeld.2.2.2.2.2.2.2.1)
              have HS8_ := (hb.cell (World.block_lt_of_cell? _ _ (hHeld.2.2.2.2.2.2.2.2.1))).trans (hHeld.2.2.2.2.2.2.2.2.1)
              have HS9_ := (hb.cell (World.block_lt_of_cell? _ _ (hHeld.2.2.2.2.2.2.2.2.2))).trans (hHeld.2.2.2.2.2.2.2.2.2)
              refine ⟨_, rfl, ?_⟩
              have n0_ := aM (Kd.R_below (xR HO_3.out) hb)
              have n1_ := aM (Kd.R_below (xR HO_4.out) hb)
              have n2_ := aM (below_step (xB HB.out) hb)
              clear HO_3
              clear HO_4
              clear HB
              have HO_3 := n0_
              have HO_4 := n1_
              have HB := n2_
              clear n0_ n1_ n2_
              (try clear hb)
              (try clear hb2)
              (try clear hk)
              (try clear hi)
              refine hK.out _ _ ⟨HS0_, HS1_, HS2_, HS3_, HS4_, HS5_, HS6_, HS7_, HS8_, HS9_⟩ (fun hHeld => ?_)
              clear hK K
              refine norm_ (a' := ?_) ?_ ?_
              rotate_left
              ·
               show Act.put _ (some 32) _ = _
               simp only [xQ, i64_w, i32_w]
               rfl
              refine one_ (i := 19) (N := some 37) b92_ rfl rfl (one_of HT_.out (by kernel_rfl)) (by decide) (fun K hK => ?_)
              refine goes_ Try.func53 (by kernel_rfl) rfl #[.agg #[.string ((rd_T85 x3_1 x5_2).f0), .int .i64 ((rd_T85 x3_1 x5_2).f1)]] (by rfl) rfl rfl (by (try simp only [List.map_toArray, List.map_cons, List.map_nil]); first | done | rfl | (simp only [List.length_drop, List.length_take]; rfl)) ?_
              with_reducible refine (r06_worth.calls ((rd_T85 x3_1 x5_2).f0) ((rd_T85 x3_1 x5_2).f1) t393 _ A15.out).mono ?_
              rintro e w40 ⟨rfl, hb⟩
              have HS0_ := (hb.cell (World.block_lt_of_cell? _ _ (hHeld.1))).trans (hHeld.1)
              have HS1_ := (hb.cell (World.block_lt_of_cell? _ _ (hHeld.2.1))).trans (hHeld.2.1)
              have HS2_ := (hb.cell (World.block_lt_of_cell? _ _ (hHeld.2.2.1))).trans (hHeld.2.2.1)
              have HS3_ := (hb.cell (World.block_lt_of_cell? _ _ (hHeld.2.2.2.1))).trans (hHeld.2.2.2.1)
              have HS4_ := (hb.cell (World.block_lt_of_cell? _ _ (hHeld.2.2.2.2.1))).trans (hHeld.2.2.2.2.1)
              have HS5_ := (hb.cell (World.block_lt_of_cell? _ _ (hHeld.2.2.2.2.2.1))).trans (hHeld.2.2.2.2.2.1)
              have HS6_ := (hb.cell (World.block_lt_of_cell? _ _ (hHeld.2.2.2.2.2.2.1))).trans (hHeld.2.2.2.2.2.2.1)
              have HS7_ := (hb.cell (World.block_lt_of_cell? _ _ (hHeld.2.2.2.2.2.2.2.1))).trans (hHeld.2.2.2.2.2.2.2.1)
              have HS8_ := (hb.cell (World.block_lt_of_cell? _ _ (hHeld.2.2.2.2.2.2.2.2.1))).trans (hHeld.2.2.2.2.2.2.2.2.1)
              have HS9_ := (hb.cell (World.block_lt_of_cell? _ _ (hHeld.2.2.2.2.2.2.2.2.2))).trans (hHeld.2.2.2.2.2.2.2.2.2)
              refine ⟨_, rfl, ?_⟩
              have n0_ := aM (Kd.R_below (xR HO_3.out) hb)
              have n1_ := aM (Kd.R_below (xR HO_4.out) hb)
              have n2_ := aM (below_step (xB HB.out) hb)
              clear HO_3
              clear HO_4
              clear HB
              have HO_3 := n0_
              have HO_4 := n1_
              have HB := n2_
              clear n0_ n1_ n2_
              (try clear hb)
              (try clear hb2)
              (try clear hk)
              (try clear hi)
              refine hK.out _ _ ⟨HS0_, HS1_, HS2_, HS3_, HS4_, HS5_, HS6_, HS7_, HS8_, HS9_⟩ (fun hHeld => ?_)
              clear hK K
              refine norm_ (a' := ?_) ?_ ?_
              rotate_left
              ·
               show Act.put _ (some 37) _ = _
               simp only [xQ, i64_w, i32_w]
               rfl
              refine pure_ (i := 20) (N := some 38) (v := ?_) (a' := ?_) b93_ rfl rfl (any_of HT_.out (by kernel_rfl)) (fun _ _ _ h => h) (Or.inl ⟨by rfl, ?_⟩) ?_ ?_; rotate_left; (· intro w'; go_simp; with_reducible rfl); rotate_left; (· simp only [xQ, i64_w, i32_w]; rfl)
              refine pure_ (i := 21) (N := some 39) (v := ?_) (a' := ?_) b94_ rfl rfl (any_of HT_.out (by kernel_rfl)) (fun _ _ _ h => h) (Or.inl ⟨by rfl, ?_⟩) ?_ ?_; rotate_left; (· intro w'; go_simp; with_reducible rfl); rotate_left; (· simp only [xQ, i64_w, i32_w]; rfl)
              refine pure_ (i := 22) (N := some 40) (v := ?_) (a' := ?_) b95_ rfl rfl (any_of HT_.out (by kernel_rfl)) (fun _ _ _ h => h) (Or.inl ⟨by rfl, ?_⟩) ?_ ?_; rotate_left; (· intro w'; go_simp; with_reducible rfl); rotate_left; (· simp only [xQ, i64_w, i32_w]; rfl)
              refine pure_ (i := 23) (N := some 41) (v := ?_) (a' := ?_) b96_ rfl rfl (any_of HT_.out (by kernel_rfl)) (fun _ _ _ h => h) (Or.inl ⟨by rfl, ?_⟩) ?_ ?_; rotate_left; (· intro w'; go_simp; with_reducible rfl); rotate_left; (· simp only [xQ, i64_w, i32_w]; rfl)
              refine pure_ (i := 24) (N := some 42) (v := ?_) (a' := ?_) b97_ rfl rfl (any_of HT_.out (by kernel_rfl)) (fun _ _ _ h => h) (Or.inl ⟨by rfl, ?_⟩) ?_ ?_; rotate_left; (· intro w'; go_simp; with_reducible rfl); rotate_left; (· simp only [xQ, i64_w, i32_w]; rfl)
              refine pure_ (i := 25) (N := some 43) (v := ?_) (a' := ?_) b98_ rfl rfl (any_of HT_.out (by kernel_rfl)) (fun _ _ _ h => h) (Or.inl ⟨by rfl, ?_⟩) ?_ ?_; rotate_left; (· intro w'; go_simp; with_reducible rfl); rotate_left; (· simp only [xQ, i64_w, i32_w]; rfl)
              refine pure_ (i := 28) (N := some 46) (v := ?_) (a' := ?_) b99_ rfl rfl (any_of HT_.out (by kernel_rfl)) (fun _ _ _ h => h) (Or.inl ⟨by rfl, ?_⟩) ?_ ?_; rotate_left; (· intro w'; go_simp; with_reducible rfl); rotate_left; (· simp only [xQ, i64_w, i32_w]; rfl)
              refine pure_ (i := 29) (N := some 47) (v := ?_) (a' := ?_) b100_ rfl rfl (any_of HT_.out (by kernel_rfl)) (fun _ _ _ h => h) (Or.inl ⟨by rfl, ?_⟩) ?_ ?_; rotate_left; (· intro w'; go_simp; with_reducible rfl); rotate_left; (· simp only [xQ, i64_w, i32_w]; rfl)
              refine pure_ (i := 30) (N := some 48) (v := ?_) (a' := ?_) b101_ rfl rfl (any_of HT_.out (by kernel_rfl)) (fun _ _ _ h => h) (Or.inl ⟨by rfl, ?_⟩) ?_ ?_; rotate_left; (· intro w'; go_simp; with_reducible rfl); rotate_left; (· simp only [xQ, i64_w, i32_w]; rfl)
              refine take_ (i := 26) (N := some 44) (v := ?_) (a' := ?_) b103_ rfl rfl (take_ofW HT_.out HW_.out (by kernel_rfl)) (fun _ _ _ h => h) (Or.inl ⟨by rfl, ?_⟩) hHeld ?_ ?_; rotate_left; (· rintro w' ⟨s0, s1, s2, s3, s4, s5, s6, s7, s8, s9⟩; go_simp; with_reducible rfl); rotate_left; (· simp only [xQ, i64_w, i32_w]; rfl)
              refine take_ (i := 31) (N := some 49) (v := ?_) (a' := ?_) b104_ rfl rfl (take_ofW HT_.out HW_.out (by kernel_rfl)) (fun _ _ _ h => h) (Or.inl ⟨by rfl, ?_⟩) hHeld ?_ ?_; rotate_left; (· rintro w' ⟨s0, s1, s2, s3, s4, s5, s6, s7, s8, s9⟩; go_simp; with_reducible rfl); rotate_left; (· simp only [xQ, i64_w, i32_w]; rfl)
              refine one_ (i := 27) (N := some 45) b109_ rfl rfl (one_of HT_.out (by kernel_rfl)) (by decide) (fun K hK => ?_)
              refine goes_ Try.func53 (by kernel_rfl) rfl #[.agg #[.string ((rd_T85 x3_1 x6_2).f0), .int .i64 ((rd_T85 x3_1 x6_2).f1)]] (by rfl) rfl rfl (by (try simp only [List.map_toArray, List.map_cons, List.map_nil]); first | done | rfl | (simp only [List.length_drop, List.length_take]; rfl)) ?_
              with_reducible refine (r06_worth.calls ((rd_T85 x3_1 x6_2).f0) ((rd_T85 x3_1 x6_2).f1) t395 _ A21.out).mono ?_
              rintro e w41 ⟨rfl, hb⟩
              have HS0_ := (hb.cell (World.block_lt_of_cell? _ _ (hHeld.1))).trans (hHeld.1)
              have HS1_ := (hb.cell (World.block_lt_of_cell? _ _ (hHeld.2.1))).trans (hHeld.2.1)
              have HS2_ := (hb.cell (World.block_lt_of_cell? _ _ (hHeld.2.2.1))).trans (hHeld.2.2.1)
              have HS3_ := (hb.cell (World.block_lt_of_cell? _ _ (hHeld.2.2.2.1))).trans (hHeld.2.2.2.1)
              have HS4_ := (hb.cell (World.block_lt_of_cell? _ _ (hHeld.2.2.2.2.1))).trans (hHeld.2.2.2.2.1)
              have HS5_ := (hb.cell (World.block_lt_of_cell? _ _ (hHeld.2.2.2.2.2.1))).trans (hHeld.2.2.2.2.2.1)
              have HS6_ := (hb.cell (World.block_lt_of_cell? _ _ (hHeld.2.2.2.2.2.2.1))).trans (hHeld.2.2.2.2.2.2.1)
              have HS7_ := (hb.cell (World.block_lt_of_cell? _ _ (hHeld.2.2.2.2.2.2.2.1))).trans (hHeld.2.2.2.2.2.2.2.1)
              have HS8_ := (hb.cell (World.block_lt_of_cell? _ _ (hHeld.2.2.2.2.2.2.2.2.1))).trans (hHeld.2.2.2.2.2.2.2.2.1)
              have HS9_ := (hb.cell (World.block_lt_of_cell? _ _ (hHeld.2.2.2.2.2.2.2.2.2))).trans (hHeld.2.2.2.2.2.2.2.2.2)
              refine ⟨_, rfl, ?_⟩
              have n0_ := aM (Kd.R_below (xR HO_3.out) hb)
              have n1_ := aM (Kd.R_below (xR HO_4.out) hb)
              have n2_ := aM (below_step (xB HB.out) hb)
              clear HO_3
              clear HO_4
              clear HB
              have HO_3 := n0_
              have HO_4 := n1_
              have HB := n2_
              clear n0_ n1_ n2_
              (try clear hb)
              (try clear hb2)
              (try clear hk)
              (try clear hi)
              refine hK.out _ _ ⟨HS0_, HS1_, HS2_, HS3_, HS4_, HS5_, HS6_, HS7_, HS8_, HS9_⟩ (fun hHeld => ?_)
              clear hK K
              refine norm_ (a' := ?_) ?_ ?_
              rotate_left
              ·
               show Act.put _ (some 45) _ = _
               simp only [xQ, i64_w, i32_w]
               rfl
              refine one_ (i := 32) (N := some 50) b110_ rfl rfl (one_of HT_.out (by kernel_rfl)) (by decide) (fun K hK => ?_)
              refine goes_ Try.func53 (by kernel_rfl) rfl #[.agg #[.string ((rd_T85 x3_1 x5_2).f0), .int .i64 ((rd_T85 x3_1 x5_2).f1)]] (by rfl) rfl rfl (by (try simp only [List.map_toArray, List.map_cons, List.map_nil]); first | done | rfl | (simp only [List.length_drop, List.length_take]; rfl)) ?_
              with_reducible refine (r06_worth.calls ((rd_T85 x3_1 x5_2).f0) ((rd_T85 x3_1 x5_2).f1) t397 _ A22.out).mono ?_
              rintro e w42 ⟨rfl, hb⟩
              have HS0_ := (hb.cell (World.block_lt_of_cell? _ _ (hHeld.1))).trans (hHeld.1)
              have HS1_ := (hb.cell (World.block_lt_of_cell? _ _ (hHeld.2.1))).trans (hHeld.2.1)
              have HS2_ := (hb.cell (World.block_lt_of_cell? _ _ (hHeld.2.2.1))).trans (hHeld.2.2.1)
              have HS3_ := (hb.cell (World.block_lt_of_cell? _ _ (hHeld.2.2.2.1))).trans (hHeld.2.2.2.1)
              have HS4_ := (hb.cell (World.block_lt_of_cell? _ _ (hHeld.2.2.2.2.1))).trans (hHeld.2.2.2.2.1)
              have HS5_ := (hb.cell (World.block_lt_of_cell? _ _ (hHeld.2.2.2.2.2.1))).trans (hHeld.2.2.2.2.2.1)
              have HS6_ := (hb.cell (World.block_lt_of_cell? _ _ (hHeld.2.2.2.2.2.2.1))).trans (hHeld.2.2.2.2.2.2.1)
              have HS7_ := (hb.cell (World.block_lt_of_cell? _ _ (hHeld.2.2.2.2.2.2.2.1))).trans (hHeld.2.2.2.2.2.2.2.1)
              have HS8_ := (hb.cell (World.block_lt_of_cell? _ _ (hHeld.2.2.2.2.2.2.2.2.1))).trans (hHeld.2.2.2.2.2.2.2.2.1)
              have HS9_ := (hb.cell (World.block_lt_of_cell? _ _ (hHeld.2.2.2.2.2.2.2.2.2))).trans (hHeld.2.2.2.2.2.2.2.2.2)
              refine ⟨_, rfl, ?_⟩
              have n0_ := aM (Kd.R_below (xR HO_3.out) hb)
              have n1_ := aM (Kd.R_below (xR HO_4.out) hb)
              have n2_ := aM (below_step (xB HB.out) hb)
              clear HO_3
              clear HO_4
              clear HB
              have HO_3 := n0_
              have HO_4 := n1_
              have HB := n2_
              clear n0_ n1_ n2_
              (try clear hb)
              (try clear hb2)
              (try clear hk)
              (try clear hi)
              refine hK.out _ _ ⟨HS0_, HS1_, HS2_, HS3_, HS4_, HS5_, HS6_, HS7_, HS8_, HS9_⟩ (fun hHeld => ?_)
              clear hK K
              refine norm_ (a' := ?_) ?_ ?_
              rotate_left
              ·
               show Act.put _ (some 50) _ = _
               simp only [xQ, i64_w, i32_w]
               rfl
              refine pure_ (i := 33) (N := some 51) (v := ?_) (a' := ?_) b111_ rfl rfl (any_of HT_.out (by kernel_rfl)) (fun _ _ _ h => h) (Or.inl ⟨by rfl, ?_⟩) ?_ ?_; rotate_left; (· intro w'; go_simp; with_reducible rfl); rotate_left; (· simp only [xQ, i64_w, i32_w]; rfl)
              refine pure_ (i := 34) (N := some 52) (v := ?_) (a' := ?_) b112_ rfl rfl (any_of HT_.out (by kernel_rfl)) (fun _ _ _ h => h) (Or.inl ⟨by rfl, ?_⟩) ?_ ?_; rotate_left; (· intro w'; go_simp; with_reducible rfl); rotate_left; (· simp only [xQ, i64_w, i32_w]; rfl)
              refine pure_ (i := 35) (N := some 53) (v := undef) (a' := ?_) b113_ rfl rfl (any_of HT_.out (by kernel_rfl)) (fun _ _ _ h => h) (Or.inr ⟨by rfl, rfl⟩) ?_ ?_
              rotate_left
              ·
               simp only [xQ, i64_w, i32_w]
               rfl
              refine pure_ (i := 36) (N := some 54) (v := undef) (a' := ?_) b114_ rfl rfl (any_of HT_.out (by kernel_rfl)) (fun _ _ _ h => h) (Or.inr ⟨by rfl, rfl⟩) ?_ ?_
              rotate_left
              ·
               simp only [xQ, i64_w, i32_w]
               rfl
              refine pure_ (i := 37) (N := some 55) (v := undef) (a' := ?_) b115_ rfl rfl (any_of HT_.out (by kernel_rfl)) (fun _ _ _ h => h) (Or.inr ⟨by rfl, rfl⟩) ?_ ?_
              rotate_left
              ·
               simp only [xQ, i64_w, i32_w]
               rfl
              refine pure_ (i := 38) (N := some 56) (v := undef) (a' := ?_) b116_ rfl rfl (any_of HT_.out (by kernel_rfl)) (fun _ _ _ h => h) (Or.inr ⟨by rfl, rfl⟩) ?_ ?_
              rotate_left
              ·
               simp only [xQ, i64_w, i32_w]
               rfl
              refine pure_ (i := 39) (N := some 57) (v := undef) (a' := ?_) b121_ rfl rfl (any_of HT_.out (by kernel_rfl)) (fun _ _ _ h => h) (Or.inr ⟨by rfl, rfl⟩) ?_ ?_
              rotate_left
              ·
               simp only [xQ, i64_w, i32_w]
               rfl
              refine pure_ (i := 40) (N := some 58) (v := undef) (a' := ?_) b122_ rfl rfl (any_of HT_.out (by kernel_rfl)) (fun _ _ _ h => h) (Or.inr ⟨by rfl, rfl⟩) ?_ ?_
              rotate_left
              ·
               simp only [xQ, i64_w, i32_w]
               rfl
              refine pure_ (i := 41) (N := some 59) (v := undef) (a' := ?_) b123_ rfl rfl (any_of HT_.out (by kernel_rfl)) (fun _ _ _ h => h) (Or.inr ⟨by rfl, rfl⟩) ?_ ?_
              rotate_left
              ·
               simp only [xQ, i64_w, i32_w]
               rfl
              refine pure_ (i := 42) (N := some 60) (v := undef) (a' := ?_) b124_ rfl rfl (any_of HT_.out (by kernel_rfl)) (fun _ _ _ h => h) (Or.inr ⟨by rfl, rfl⟩) ?_ ?_
              rotate_left
              ·
               simp only [xQ, i64_w, i32_w]
               rfl
              refine pure_ (i := 43) (N := some 61) (v := undef) (a' := ?_) b125_ rfl rfl (any_of HT_.out (by kernel_rfl)) (fun _ _ _ h => h) (Or.inr ⟨by rfl, rfl⟩) ?_ ?_
              rotate_left
              ·
               simp only [xQ, i64_w, i32_w]
               rfl
              refine pure_ (i := 44) (N := some 62) (v := undef) (a' := ?_) b126_ rfl rfl (any_of HT_.out (by kernel_rfl)) (fun _ _ _ h => h) (Or.inr ⟨by rfl, rfl⟩) ?_ ?_
              rotate_left
              ·
               simp only [xQ, i64_w, i32_w]
               rfl
              refine pure_ (i := 45) (N := some 63) (v := undef) (a' := ?_) b127_ rfl rfl (any_of HT_.out (by kernel_rfl)) (fun _ _ _ h => h) (Or.inr ⟨by rfl, rfl⟩) ?_ ?_
              rotate_left
              ·
               simp only [xQ, i64_w, i32_w]
               rfl
              refine pure_ (i := 46) (N := some 64) (v := ?_) (a' := ?_) b128_ rfl rfl (any_of HT_.out (by kernel_rfl)) (fun _ _ _ h => h) (Or.inl ⟨by rfl, ?_⟩) ?_ ?_; rotate_left; (· intro w'; go_simp; with_reducible rfl); rotate_left; (· simp only [xQ, i64_w, i32_w]; rfl)
              refine pure_ (i := 47) (N := some 65) (v := ?_) (a' := ?_) b129_ rfl rfl (any_of HT_.out (by kernel_rfl)) (fun _ _ _ h => h) (Or.inl ⟨by rfl, ?_⟩) ?_ ?_; rotate_left; (· intro w'; go_simp; with_reducible rfl); rotate_left; (· simp only [xQ, i64_w, i32_w]; rfl)
              refine pure_ (i := 48) (N := some 66) (v := ?_) (a' := ?_) b130_ rfl rfl (any_of HT_.out (by kernel_rfl)) (fun _ _ _ h => h) (Or.inl ⟨by rfl, ?_⟩) ?_ ?_; rotate_left; (· intro w'; go_simp; with_reducible rfl); rotate_left; (· simp only [xQ, i64_w, i32_w]; rfl)
              refine done_ (done_of HT_.out (by kernel_rfl)) ?_
              try go_wp2
              go_roundg k2
              case measure => have := HK1.out; have := HK2.out; omega
              case rel => exact ⟨(x5_2), (wrap64 (x6_2 + 1)), (by first | rfl | (simp; done) | (simp [*]; done)), (by first | rfl | (simp; done) | (simp [*]; done)), H', ⟨by have := HK1.out; have := HK2.out; omega⟩, ⟨by (with_reducible repeat (first | apply Kd.R_alloc | apply Kd.R_drewN | apply Kd.R_drew)); exact HO_3.out⟩, ⟨by (with_reducible repeat (first | apply Kd.R_alloc | apply Kd.R_drewN | apply Kd.R_drew)); exact HO_4.out⟩, ⟨xB HB.out⟩⟩
           ·
            rw [if_neg c14] at H
            exact absurd H (by simp)
          ·
           rw [if_neg c13] at H
           exact absurd H (by simp)
        ·
         rw [if_neg c8] at H
         have c8b0 : decide (2 ≤ ((rd_T85 x3_1 x6_2).f1)) = false := decide_eq_false c8
         clear c8
         have H' := aM H
         clear H
         obtain ⟨Ao43, co43, eo43⟩ := Kd.R_slice HO_3.out
         subst eo43
         try go_wp2
         have n0_ := aM (Kd.R_drew HO_3.out)
         have n1_ := aM (Kd.R_drew HO_4.out)
         have n2_ := aM (below_drew1 HB.out)
         clear HO_3
         clear HO_4
         clear HB
         have HO_3 := n0_
         have HO_4 := n1_
         have HB := n2_
         clear n0_ n1_ n2_
         have p389 : 0 ≤ (x6_2 : Int) := of_decide_eq_true (by first | (with_reducible assumption) | assumption)
         have q389 : x6_2 < (x3_1.length : Int) := of_decide_eq_true (by first | (with_reducible assumption) | assumption)
         obtain ⟨ad389, e389, hx389_0, hx389_1⟩ := at_T85 (Kd.R_reads' HO_3.out).2.2 x6_2 p389 q389
         cases e389
         replace p389 := eq_true p389
         replace q389 := eq_true q389
         refine start_ (n := 49) (S := fun w' => w'.cell? (ad389.add ((x6_2).toNat * 2)) = some (.string ((rd_T85 x3_1 x6_2).f0)) ∧ w'.cell? ⟨(ad389.add ((x6_2).toNat * 2)).block, (ad389.add ((x6_2).toNat * 2)).off + 1, none⟩ = some (.int .i64 ((rd_T85 x3_1 x6_2).f1))) (ds := []) b67_ (by kernel_rfl) rfl rfl ⟨hx389_0, hx389_1⟩ (fun hHeld => ?_); refine with_tabW r06_Train.tab8 r06_Train.bits8 (fun HT_ HW_ => ?_)
         generalize wr.drew = w44 at HO_3 HO_4 HB hx389_0 hx389_1 hHeld ⊢
         refine pure_ (i := 0) (N := some 18) (v := ?_) (a' := ?_) b68_ rfl rfl (any_of HT_.out (by kernel_rfl)) (fun _ _ _ h => h) (Or.inl ⟨by rfl, ?_⟩) ?_ ?_; rotate_left; (· intro w'; go_simp; with_reducible rfl); rotate_left; (· simp only [xQ, i64_w, i32_w]; rfl)
         refine pure_ (i := 1) (N := some 19) (v := ?_) (a' := ?_) b69_ rfl rfl (any_of HT_.out (by kernel_rfl)) (fun _ _ _ h => h) (Or.inl ⟨by rfl, ?_⟩) ?_ ?_; rotate_left; (· intro w'; go_simp; with_reducible rfl); rotate_left; (· simp only [xQ, i64_w, i32_w]; rfl)
         refine pure_ (i := 2) (N := some 20) (v := ?_) (a' := ?_) b70_ rfl rfl (any_of HT_.out (by kernel_rfl)) (fun _ _ _ h => h) (Or.inl ⟨by rfl, ?_⟩) ?_ ?_; rotate_left; (· intro w'; go_simp; with_reducible rfl); rotate_left; (· simp only [xQ, i64_w, i32_w]; rfl)
         refine pure_ (i := 3) (N := some 21) (v := ?_) (a' := ?_) b71_ rfl rfl (any_of HT_.out (by kernel_rfl)) (fun _ _ _ h => h) (Or.inl ⟨by rfl, ?_⟩) ?_ ?_; rotate_left; (· intro w'; go_simp; with_reducible rfl); rotate_left; (· simp only [xQ, i64_w, i32_w]; rfl)
         refine take_ (i := 4) (N := some 22) (v := ?_) (a' := ?_) b72_ rfl rfl (take_ofW HT_.out HW_.out (by kernel_rfl)) (fun _ _ _ h => h) (Or.inl ⟨by rfl, ?_⟩) hHeld ?_ ?_; rotate_left; (· rintro w' ⟨s0, s1⟩; go_simp; with_reducible rfl); rotate_left; (· simp only [xQ, i64_w, i32_w]; rfl)
         refine pure_ (i := 5) (N := some 23) (v := ?_) (a' := ?_) b73_ rfl rfl (any_of HT_.out (by kernel_rfl)) (fun _ _ _ h => h) (Or.inl ⟨by rfl, ?_⟩) ?_ ?_; rotate_left; (· intro w'; go_simp; with_reducible rfl); rotate_left; (· simp only [xQ, i64_w, i32_w]; rfl)
         refine pure_ (i := 6) (N := some 24) (v := ?_) (a' := ?_) b74_ rfl rfl (any_of HT_.out (by kernel_rfl)) (fun _ _ _ h => h) (Or.inl ⟨by rfl, ?_⟩) ?_ ?_; rotate_left; (· intro w'; go_simp; with_reducible rfl); rotate_left; (· simp only [xQ, i64_w, i32_w]; rfl)
         refine pure_ (i := 7) (N := some 25) (v := undef) (a' := ?_) b75_ rfl rfl (any_of HT_.out (by kernel_rfl)) (fun _ _ _ h => h) (Or.inr ⟨by rfl, rfl⟩) ?_ ?_
         rotate_left
         ·
          simp only [xQ, i64_w, i32_w]
          rfl
         refine pure_ (i := 8) (N := some 26) (v := undef) (a' := ?_) b76_ rfl rfl (any_of HT_.out (by kernel_rfl)) (fun _ _ _ h => h) (Or.inr ⟨by rfl, rfl⟩) ?_ ?_
         rotate_left
         ·
          simp only [xQ, i64_w, i32_w]
          rfl
         refine pure_ (i := 9) (N := some 27) (v := undef) (a' := ?_) b77_ rfl rfl (any_of HT_.out (by kernel_rfl)) (fun _ _ _ h => h) (Or.inr ⟨by rfl, rfl⟩) ?_ ?_
         rotate_left
         ·
          simp only [xQ, i64_w, i32_w]
          rfl
         refine pure_ (i := 10) (N := some 28) (v := undef) (a' := ?_) b78_ rfl rfl (any_of HT_.out (by kernel_rfl)) (fun _ _ _ h => h) (Or.inr ⟨by rfl, rfl⟩) ?_ ?_
         rotate_left
         ·
          simp only [xQ, i64_w, i32_w]
          rfl
         refine pure_ (i := 11) (N := some 29) (v := undef) (a' := ?_) b79_ rfl rfl (any_of HT_.out (by kernel_rfl)) (fun _ _ _ h => h) (Or.inr ⟨by rfl, rfl⟩) ?_ ?_
         rotate_left
         ·
          simp only [xQ, i64_w, i32_w]
          rfl
         refine pure_ (i := 12) (N := some 30) (v := undef) (a' := ?_) b80_ rfl rfl (any_of HT_.out (by kernel_rfl)) (fun _ _ _ h => h) (Or.inr ⟨by rfl, rfl⟩) ?_ ?_
         rotate_left
         ·
          simp only [xQ, i64_w, i32_w]
          rfl
         refine pure_ (i := 13) (N := some 31) (v := undef) (a' := ?_) b84_ rfl rfl (any_of HT_.out (by kernel_rfl)) (fun _ _ _ h => h) (Or.inr ⟨by rfl, rfl⟩) ?_ ?_
         rotate_left
         ·
          simp only [xQ, i64_w, i32_w]
          rfl
         refine pure_ (i := 14) (N := some 32) (v := undef) (a' := ?_) b87_ rfl rfl (any_of HT_.out (by kernel_rfl)) (fun _ _ _ h => h) (Or.inr ⟨by rfl, rfl⟩) ?_ ?_
         rotate_left
         ·
          simp only [xQ, i64_w, i32_w]
          rfl
         refine pure_ (i := 15) (N := some 33) (v := undef) (a' := ?_) b88_ rfl rfl (any_of HT_.out (by kernel_rfl)) (fun _ _ _ h => h) (Or.inr ⟨by rfl, rfl⟩) ?_ ?_
         rotate_left
         ·
          simp only [xQ, i64_w, i32_w]
          rfl
         refine pure_ (i := 16) (N := some 34) (v := undef) (a' := ?_) b89_ rfl rfl (any_of HT_.out (by kernel_rfl)) (fun _ _ _ h => h) (Or.inr ⟨by rfl, rfl⟩) ?_ ?_
         rotate_left
         ·
          simp only [xQ, i64_w, i32_w]
          rfl
         refine pure_ (i := 17) (N := some 35) (v := undef) (a' := ?_) b90_ rfl rfl (any_of HT_.out (by kernel_rfl)) (fun _ _ _ h => h) (Or.inr ⟨by rfl, rfl⟩) ?_ ?_
         rotate_left
         ·
          simp only [xQ, i64_w, i32_w]
          rfl
         refine pure_ (i := 18) (N := some 36) (v := undef) (a' := ?_) b91_ rfl rfl (any_of HT_.out (by kernel_rfl)) (fun _ _ _ h => h) (Or.inr ⟨by rfl, rfl⟩) ?_ ?_
         rotate_left
         ·
          simp only [xQ, i64_w, i32_w]
          rfl
         refine pure_ (i := 19) (N := some 37) (v := undef) (a' := ?_) b92_ rfl rfl (any_of HT_.out (by kernel_rfl)) (fun _ _ _ h => h) (Or.inr ⟨by rfl, rfl⟩) ?_ ?_
         rotate_left
         ·
          simp only [xQ, i64_w, i32_w]
          rfl
         refine pure_ (i := 20) (N := some 38) (v := undef) (a' := ?_) b93_ rfl rfl (any_of HT_.out (by kernel_rfl)) (fun _ _ _ h => h) (Or.inr ⟨by rfl, rfl⟩) ?_ ?_
         rotate_left
         ·
          simp only [xQ, i64_w, i32_w]
          rfl
         refine pure_ (i := 21) (N := some 39) (v := undef) (a' := ?_) b94_ rfl rfl (any_of HT_.out (by kernel_rfl)) (fun _ _ _ h => h) (Or.inr ⟨by rfl, rfl⟩) ?_ ?_
         rotate_left
         ·
          simp only [xQ, i64_w, i32_w]
          rfl
         refine pure_ (i := 22) (N := some 40) (v := undef) (a' := ?_) b95_ rfl rfl (any_of HT_.out (by kernel_rfl)) (fun _ _ _ h => h) (Or.inr ⟨by rfl, rfl⟩) ?_ ?_
         rotate_left
         ·
          simp only [xQ, i64_w, i32_w]
          rfl
         refine pure_ (i := 23) (N := some 41) (v := undef) (a' := ?_) b96_ rfl rfl (any_of HT_.out (by kernel_rfl)) (fun _ _ _ h => h) (Or.inr ⟨by rfl, rfl⟩) ?_ ?_
         rotate_left
         ·
          simp only [xQ, i64_w, i32_w]
          rfl
         refine pure_ (i := 24) (N := some 42) (v := undef) (a' := ?_) b97_ rfl rfl (any_of HT_.out (by kernel_rfl)) (fun _ _ _ h => h) (Or.inr ⟨by rfl, rfl⟩) ?_ ?_
         rotate_left
         ·
          simp only [xQ, i64_w, i32_w]
          rfl
         refine pure_ (i := 25) (N := some 43) (v := undef) (a' := ?_) b98_ rfl rfl (any_of HT_.out (by kernel_rfl)) (fun _ _ _ h => h) (Or.inr ⟨by rfl, rfl⟩) ?_ ?_
         rotate_left
         ·
          simp only [xQ, i64_w, i32_w]
          rfl
         refine pure_ (i := 26) (N := some 44) (v := undef) (a' := ?_) b102_ rfl rfl (any_of HT_.out (by kernel_rfl)) (fun _ _ _ h => h) (Or.inr ⟨by rfl, rfl⟩) ?_ ?_
         rotate_left
         ·
          simp only [xQ, i64_w, i32_w]
          rfl
         refine pure_ (i := 27) (N := some 45) (v := undef) (a' := ?_) b105_ rfl rfl (any_of HT_.out (by kernel_rfl)) (fun _ _ _ h => h) (Or.inr ⟨by rfl, rfl⟩) ?_ ?_
         rotate_left
         ·
          simp only [xQ, i64_w, i32_w]
          rfl
         refine pure_ (i := 28) (N := some 46) (v := undef) (a' := ?_) b106_ rfl rfl (any_of HT_.out (by kernel_rfl)) (fun _ _ _ h => h) (Or.inr ⟨by rfl, rfl⟩) ?_ ?_
         rotate_left
         ·
          simp only [xQ, i64_w, i32_w]
          rfl
         refine pure_ (i := 29) (N := some 47) (v := undef) (a' := ?_) b107_ rfl rfl (any_of HT_.out (by kernel_rfl)) (fun _ _ _ h => h) (Or.inr ⟨by rfl, rfl⟩) ?_ ?_
         rotate_left
         ·
          simp only [xQ, i64_w, i32_w]
          rfl
         refine pure_ (i := 30) (N := some 48) (v := undef) (a' := ?_) b108_ rfl rfl (any_of HT_.out (by kernel_rfl)) (fun _ _ _ h => h) (Or.inr ⟨by rfl, rfl⟩) ?_ ?_
         rotate_left
         ·
          simp only [xQ, i64_w, i32_w]
          rfl
         refine pure_ (i := 31) (N := some 49) (v := undef) (a' := ?_) b109_ rfl rfl (any_of HT_.out (by kernel_rfl)) (fun _ _ _ h => h) (Or.inr ⟨by rfl, rfl⟩) ?_ ?_
         rotate_left
         ·
          simp only [xQ, i64_w, i32_w]
          rfl
         refine pure_ (i := 32) (N := some 50) (v := undef) (a' := ?_) b110_ rfl rfl (any_of HT_.out (by kernel_rfl)) (fun _ _ _ h => h) (Or.inr ⟨by rfl, rfl⟩) ?_ ?_
         rotate_left
         ·
          simp only [xQ, i64_w, i32_w]
          rfl
         refine pure_ (i := 33) (N := some 51) (v := undef) (a' := ?_) b111_ rfl rfl (any_of HT_.out (by kernel_rfl)) (fun _ _ _ h => h) (Or.inr ⟨by rfl, rfl⟩) ?_ ?_
         rotate_left
         ·
          simp only [xQ, i64_w, i32_w]
          rfl
         refine pure_ (i := 34) (N := some 52) (v := undef) (a' := ?_) b112_ rfl rfl (any_of HT_.out (by kernel_rfl)) (fun _ _ _ h => h) (Or.inr ⟨by rfl, rfl⟩) ?_ ?_
         rotate_left
         ·
          simp only [xQ, i64_w, i32_w]
          rfl
         refine pure_ (i := 35) (N := some 53) (v := undef) (a' := ?_) b113_ rfl rfl (any_of HT_.out (by kernel_rfl)) (fun _ _ _ h => h) (Or.inr ⟨by rfl, rfl⟩) ?_ ?_
         rotate_left
         ·
          simp only [xQ, i64_w, i32_w]
          rfl
         refine pure_ (i := 36) (N := some 54) (v := undef) (a' := ?_) b114_ rfl rfl (any_of HT_.out (by kernel_rfl)) (fun _ _ _ h => h) (Or.inr ⟨by rfl, rfl⟩) ?_ ?_
         rotate_left
         ·
          simp only [xQ, i64_w, i32_w]
          rfl
         refine pure_ (i := 37) (N := some 55) (v := undef) (a' := ?_) b115_ rfl rfl (any_of HT_.out (by kernel_rfl)) (fun _ _ _ h => h) (Or.inr ⟨by rfl, rfl⟩) ?_ ?_
         rotate_left
         ·
          simp only [xQ, i64_w, i32_w]
          rfl
         refine pure_ (i := 38) (N := some 56) (v := undef) (a' := ?_) b116_ rfl rfl (any_of HT_.out (by kernel_rfl)) (fun _ _ _ h => h) (Or.inr ⟨by rfl, rfl⟩) ?_ ?_
         rotate_left
         ·
          simp only [xQ, i64_w, i32_w]
          rfl
         refine pure_ (i := 39) (N := some 57) (v := undef) (a' := ?_) b121_ rfl rfl (any_of HT_.out (by kernel_rfl)) (fun _ _ _ h => h) (Or.inr ⟨by rfl, rfl⟩) ?_ ?_
         rotate_left
         ·
          simp only [xQ, i64_w, i32_w]
          rfl
         refine pure_ (i := 40) (N := some 58) (v := undef) (a' := ?_) b122_ rfl rfl (any_of HT_.out (by kernel_rfl)) (fun _ _ _ h => h) (Or.inr ⟨by rfl, rfl⟩) ?_ ?_
         rotate_left
         ·
          simp only [xQ, i64_w, i32_w]
          rfl
         refine pure_ (i := 41) (N := some 59) (v := undef) (a' := ?_) b123_ rfl rfl (any_of HT_.out (by kernel_rfl)) (fun _ _ _ h => h) (Or.inr ⟨by rfl, rfl⟩) ?_ ?_
         rotate_left
         ·
          simp only [xQ, i64_w, i32_w]
          rfl
         refine pure_ (i := 42) (N := some 60) (v := undef) (a' := ?_) b124_ rfl rfl (any_of HT_.out (by kernel_rfl)) (fun _ _ _ h => h) (Or.inr ⟨by rfl, rfl⟩) ?_ ?_
         rotate_left
         ·
          simp only [xQ, i64_w, i32_w]
          rfl
         refine pure_ (i := 43) (N := some 61) (v := undef) (a' := ?_) b125_ rfl rfl (any_of HT_.out (by kernel_rfl)) (fun _ _ _ h => h) (Or.inr ⟨by rfl, rfl⟩) ?_ ?_
         rotate_left
         ·
          simp only [xQ, i64_w, i32_w]
          rfl
         refine pure_ (i := 44) (N := some 62) (v := undef) (a' := ?_) b126_ rfl rfl (any_of HT_.out (by kernel_rfl)) (fun _ _ _ h => h) (Or.inr ⟨by rfl, rfl⟩) ?_ ?_
         rotate_left
         ·
          simp only [xQ, i64_w, i32_w]
          rfl
         refine pure_ (i := 45) (N := some 63) (v := undef) (a' := ?_) b127_ rfl rfl (any_of HT_.out (by kernel_rfl)) (fun _ _ _ h => h) (Or.inr ⟨by rfl, rfl⟩) ?_ ?_
         rotate_left
         ·
          simp only [xQ, i64_w, i32_w]
          rfl
         refine pure_ (i := 46) (N := some 64) (v := undef) (a' := ?_) b128_ rfl rfl (any_of HT_.out (by kernel_rfl)) (fun _ _ _ h => h) (Or.inr ⟨by rfl, rfl⟩) ?_ ?_
         rotate_left
         ·
          simp only [xQ, i64_w, i32_w]
          rfl
         refine pure_ (i := 47) (N := some 65) (v := undef) (a' := ?_) b129_ rfl rfl (any_of HT_.out (by kernel_rfl)) (fun _ _ _ h => h) (Or.inr ⟨by rfl, rfl⟩) ?_ ?_
         rotate_left
         ·
          simp only [xQ, i64_w, i32_w]
          rfl
         refine pure_ (i := 48) (N := some 66) (v := ?_) (a' := ?_) b130_ rfl rfl (any_of HT_.out (by kernel_rfl)) (fun _ _ _ h => h) (Or.inl ⟨by rfl, ?_⟩) ?_ ?_; rotate_left; (· intro w'; go_simp; with_reducible rfl); rotate_left; (· simp only [xQ, i64_w, i32_w]; rfl)
         refine done_ (done_of HT_.out (by kernel_rfl)) ?_
         try go_wp2
         go_roundg k2
         case measure => have := HK1.out; have := HK2.out; omega
         case rel => exact ⟨(x5_2), (wrap64 (x6_2 + 1)), (by first | rfl | (simp; done) | (simp [*]; done)), (by first | rfl | (simp; done) | (simp [*]; done)), H', ⟨by have := HK1.out; have := HK2.out; omega⟩, ⟨by (with_reducible repeat (first | apply Kd.R_alloc | apply Kd.R_drewN | apply Kd.R_drew)); exact HO_3.out⟩, ⟨by (with_reducible repeat (first | apply Kd.R_alloc | apply Kd.R_drewN | apply Kd.R_drew)); exact HO_4.out⟩, ⟨xB HB.out⟩⟩
       ·
        rw [if_neg c7] at H
        exact absurd H (by simp)
      ·
       rw [if_neg c6] at H
       have c6b0 : decide (x6_2 < (x3_1.length : Int)) = false := decide_eq_false c6
       clear c6
       by_cases c45 : x5_2 < 0
       ·
        rw [if_pos c45] at H
        have c45b0 : decide (x5_2 < 0) = true := decide_eq_true c45
        clear c45
        obtain rfl := Option.some.inj H
        obtain ⟨Ao46, co46, eo46⟩ := Kd.R_slice HO_3.out
        subst eo46
        go_wp2
        go_ret
        exact ⟨_, by first | rfl | (simp [errW_none, errW_some] <;> rfl) | (simp [*, errW_none, errW_some] <;> rfl), by (with_reducible repeat (first | apply Kd.R_alloc | apply Kd.R_drewN | apply Kd.R_drew)); exact HO_4.out, xB HB.out⟩
       ·
        rw [if_neg c45] at H
        have c45b0 : decide (x5_2 < 0) = false := decide_eq_false c45
        clear c45
        by_cases c47 : 0 ≤ x5_2
        ·
         rw [if_pos c47] at H
         have c47b0 : decide (0 ≤ x5_2) = true := decide_eq_true c47
         clear c47
         by_cases c48 : x5_2 < (x3_1.length : Int)
         ·
          rw [if_pos c48] at H
          have c48b0 : decide (x5_2 < (x3_1.length : Int)) = true := decide_eq_true c48
          clear c48
          by_cases c49 : x4_1.length < 8796093022208
          ·
           rw [if_pos c49] at H
           have LMc49 := aM c49
           clear c49
           obtain ⟨y385, hy385⟩ : ∃ y_ : List ByteArray, y_ = (x4_1 ++ [(rd_T85 x3_1 x5_2).f0]) := ⟨_, rfl⟩
           replace H : (r06_Train.l0 k2 (x3_1.set (x5_2 : Int).toNat (⟨(rd_T85 x3_1 x5_2).f0, 0⟩ : S85)) y385) = some r := by first | (rw [hy385]; with_reducible exact H) | (have H2_ := (Option.bind_some _ _).symm.trans H; rw [hy385]; with_reducible exact H2_) | (have H2_ := (Option.bind_some _ _).symm.trans H; with_reducible exact H2_) | with_reducible exact H | (rw [hy385]; exact H) | exact H
           have Ny385 := aM hy385
           clear hy385
           obtain ⟨y388, hy388⟩ : ∃ y_ : List (S85), y_ = (x3_1.set (x5_2 : Int).toNat (⟨(rd_T85 x3_1 x5_2).f0, 0⟩ : S85)) := ⟨_, rfl⟩
           replace H : (r06_Train.l0 k2 y388 y385) = some r := by first | (rw [hy388]; with_reducible exact H) | (have H2_ := (Option.bind_some _ _).symm.trans H; rw [hy388]; with_reducible exact H2_) | (have H2_ := (Option.bind_some _ _).symm.trans H; with_reducible exact H2_) | with_reducible exact H | (rw [hy388]; exact H) | exact H
           have Ny388 := aM hy388
           clear hy388
           have H' := aM H
           clear H
           obtain ⟨Ao51, co51, eo51⟩ := Kd.R_slice HO_3.out
           subst eo51
           have p384 : 0 ≤ (x5_2 : Int) := of_decide_eq_true (by first | (with_reducible assumption) | assumption)
           have q384 : x5_2 < (x3_1.length : Int) := of_decide_eq_true (by first | (with_reducible assumption) | assumption)
           obtain ⟨ad384, e384, hx384_0, hx384_1⟩ := at_T85 (Kd.R_reads' HO_3.out).2.2 x5_2 p384 q384
           cases e384
           replace p384 := eq_true p384
           replace q384 := eq_true q384
           go_wp2_with (first | ((with_reducible refine gate_builtin (b := .append) (xs := #[.tmp 71, .tmp 77]) rfl ?_); at_builtin; refine Kd.R_append Kd.string (w0 := w) w.heap.size rfl (.tmp 71) (.tmp 77) 42 9 (.string ⟨#[]⟩) 16 rfl Try.underlying42 info9 rfl (by decide) (by omega) (.slice Ao5 x4_1.length co5) x4_1 ((rd_T85 x3_1 x5_2).f0) [.string ((rd_T85 x3_1 x5_2).f0)] (fun _ => True) (fun _ => False) rfl rfl ?aP (fun _ hk => hk.elim) ?aF ?aO ?aB ?aS ?aL ?_; (case aP => exact rfl); (case aB => exact (xB HB.out)); (case aF => exact (fun _ _ => trivial)); (case aO => exact (xR HO_4.out)); (case aS => exact (below_size (xB HB.out))); (case aL => have := LMc49.out; omega); intro v386 w52 ho hb hg hat; rw [← Ny385.out] at ho; have n0_ := aM (Kd.R_over' (xR HO_3.out) (Kd.R_typed (xR HO_4.out)) (by decide) hg); have n1_ := aM (hb); have n2_ := aM (ho); clear HO_3; clear HB; clear HO_4; have HO_3 := n0_; have HB := n1_; have HO387 := n2_; clear n0_ n1_ n2_; clear ho hb hg hat; have p50 : 0 ≤ (x5_2 : Int) := of_decide_eq_true (by first | (with_reducible assumption) | assumption); have q50 : (x5_2 : Int) < ((x3_1.length : Int) : Int) := of_decide_eq_true (by first | (with_reducible assumption) | assumption); obtain ⟨go50, co50, eo50, gb50, gl50, cl50, HG50⟩ := Kd.R_form HO_3.out (by omega); (first | cases eo50 | (injection eo50 with ea_ en_ ec_; (first | subst ea_ | (injection ea_ with ea_; subst ea_)); subst ec_; clear en_)); have GB50 := aM gb50; have GG50 := aM HG50; clear gb50 gl50 HG50; (first | simp only [add_plain] at hx384_0 | skip); (first | simp only [add_plain] at hx384_1 | skip); obtain ⟨ce50, hcl50, hM50, hcc50, hfr50⟩ := Kd.R_elem HO_3.out z85 (x5_2 : Int) p50 q50; obtain rfl := k85_openM hM50; have hx50_0 : w52.cell? ⟨go50, (x5_2 : Int).toNat * 2, none⟩ = some (.string ((rd_T85 x3_1 x5_2).f0)) := hcc50 0 _ rfl; have hx50_1 : w52.cell? ⟨go50, (x5_2 : Int).toNat * 2 + 1, none⟩ = some (.int .i64 ((rd_T85 x3_1 x5_2).f1)) := hcc50 1 _ rfl; have hf50_0 : w52.frozen? ⟨go50, (x5_2 : Int).toNat * 2, none⟩ = false := hfr50 0; have hf50_1 : w52.frozen? ⟨go50, (x5_2 : Int).toNat * 2 + 1, none⟩ = false := hfr50 1; clear hcl50 hcc50 hfr50 hM50; replace p50 := eq_true p50; replace q50 := eq_true q50; have HX53 := aM (show Kd.R k85 85 w52 w.heap.size (fun _ => True) (.slice (some ⟨go50, 0, none⟩) x3_1.length co51) x3_1 from (xR HO_3.out)); obtain ⟨ce53, hcl53, hM53, hcc53, hfr53⟩ := Kd.R_elem HX53.out z85 (x5_2 : Int) (of_decide_eq_true (by first | (with_reducible assumption) | assumption)) (by have h_ : (x5_2 : Int) < ((x3_1.length : Int) : Int) := of_decide_eq_true (by first | (with_reducible assumption) | assumption); first | exact h_ | (have e_ := (Kd.R_reads' HO_3.out).1; omega) | simpa using h_); obtain rfl := k85_openM hM53; have HP53 := Kd.R_seg HX53.out (x5_2 : Int) (of_decide_eq_true (by first | (with_reducible assumption) | assumption)) (by have h_ : (x5_2 : Int) < ((x3_1.length : Int) : Int) := of_decide_eq_true (by first | (with_reducible assumption) | assumption); first | exact h_ | (have e_ := (Kd.R_reads' HO_3.out).1; omega) | simpa using h_) (seg := [.int .i64 0]) (j := 1) hcl53 hcc53 (show 2 ≤ 2 from by decide) (x' := (⟨(rd_T85 x3_1 x5_2).f0, 0⟩ : S85)) (k85_mkM _ _ _ (⟨(rd_T85 x3_1 x5_2).f0, 0⟩ : S85) ) (fun _ hk => hk); have hx53_1 := hcc53 1 _ rfl; (try simp only [show (k85).sz = 2 from rfl, Nat.mul_one, Nat.add_zero] at hx53_1); have hf53_1 := hfr53 1; (try simp only [show (k85).sz = 2 from rfl, Nat.mul_one, Nat.add_zero] at hf53_1); clear hcl53 hcc53 hfr53 hM53) | ((with_reducible refine gate_store (t := 3) (p := 82) rfl ?_); refine store_event (t := 3) (p := 82) (v := ?vo_w54) (w1 := (w52.setCell ⟨go50, (x5_2 : Int).toNat * 2 + 1, none⟩ (.int .i64 0))) ?hg ?ho ?hn ?hr ?_; (case ho => rfl); (case hg => rfl); (case hn => rfl); (case hr => first | (go_simp; done) | (go_simp; rfl)); intro w54 hw; have hg : w52.grownBy w54 (some go50) := (by rw [hw]; exact HP53.2); have hp_ : Kd.R k85 85 w54 w.heap.size (fun _ => True) (.slice (some ⟨go50, 0, none⟩) x3_1.length co51) y388 := (by rw [hw, Ny388.out]; exact HP53.1); clear HP53; have n0_ := aM (hp_); have n1_ := aM (Kd.R_over' (v := (.slice (some ⟨go50, 0, none⟩) x3_1.length co51)) (xR HO387.out) (Kd.R_typed HO_3.out) (by decide) hg); have n2_ := aM ((by rw [hw]; exact below_set (HB.out) GB50.out : Below w.heap.size w w54)); clear HO_3; clear HO387; clear HB; have HO_3 := n0_; have HO387 := n1_; have HB := n2_; clear n0_ n1_ n2_; clear hg hw hp_))
           go_roundg k2
           case measure => have := HK1.out; have := HK2.out; omega
           case rel => exact ⟨(y388), (y385), H', ⟨by have := HK1.out; have := HK2.out; omega⟩, ⟨by (with_reducible repeat (first | apply Kd.R_alloc | apply Kd.R_drewN | apply Kd.R_drew)); exact HO_3.out⟩, ⟨by (with_reducible repeat (first | apply Kd.R_alloc | apply Kd.R_drewN | apply Kd.R_drew)); exact HO387.out⟩, ⟨xB HB.out⟩⟩
          ·
           rw [if_neg c49] at H
           exact absurd H (by simp)
         ·
          rw [if_neg c48] at H
          exact absurd H (by simp)
        ·
         rw [if_neg c47] at H
         exact absurd H (by simp)
   ·
    rw [if_neg c4] at H
    have c4b0 : decide ((x4_1.length : Int) < 32) = false := decide_eq_false c4
    have c4b1 : decide (x4_1.length < 32) = false := decide_eq_false (by omega)
    clear c4
    obtain rfl := Option.some.inj H
    obtain ⟨Ao55, co55, eo55⟩ := Kd.R_slice HO_4.out
    subst eo55
    go_wp2
    go_ret
    exact ⟨_, by first | rfl | (simp [errW_none, errW_some] <;> rfl) | (simp [*, errW_none, errW_some] <;> rfl), by (with_reducible repeat (first | apply Kd.R_alloc | apply Kd.R_drewN | apply Kd.R_drew)); exact HO_4.out, xB HB.out⟩
end Go.Proofs.Ythaifibhflfpkaa.Q
end
