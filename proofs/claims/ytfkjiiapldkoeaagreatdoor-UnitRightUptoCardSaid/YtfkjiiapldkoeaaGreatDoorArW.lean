/- Trees of functions, each checked by the kernel against the code. No condition. -/
import Derived.Test.YtfkjiiapldkoeaaGreatDoorSxF
import Derived.Test.YtfkjiiapldkoeaaGreatDoorProg
import Derived.KernelRfl
set_option linter.unusedVariables false
set_option linter.unusedSimpArgs false
set_option linter.deprecated false
set_option maxRecDepth 100000
namespace Go.Sx
open Go.Proofs
def qR :T :=
 T.bj Tryz.prog (Instr.buildSlice 216 43 #[(0,.agg #[.string ⟨#[110,111,112]⟩,.int .u8 0,vI 1]),(1,.agg #[.string ⟨#[104,97,108,116]⟩,.int .u8 1,vI 1]),(2,.agg #[.string ⟨#[114,101,116]⟩,.int .u8 2,vI 1]),(3,.agg #[.string ⟨#[112,114,105,110,116]⟩,.int .u8 3,vI 2]),(4,.agg #[.string ⟨#[105,110]⟩,.int .u8 4,vI 2]),(5,.agg #[.string ⟨#[112,117,115,104]⟩,.int .u8 5,vI 2]),(6,.agg #[.string ⟨#[112,111,112]⟩,.int .u8 6,vI 2]),(7,.agg #[.string ⟨#[106,114]⟩,.int .u8 7,vI 2]),(8,.agg #[.string ⟨#[110,101,103]⟩,.int .u8 8,vI 2]),(9,.agg #[.string ⟨#[110,111,116]⟩,.int .u8 9,vI 2]),(10,.agg #[.string ⟨#[122,116,117,114,110]⟩,.int .u8 10,vI 3]),(11,.agg #[.string ⟨#[122,99,111,110,106]⟩,.int .u8 11,vI 3]),(12,.agg #[.string ⟨#[109,111,118]⟩,.int .u8 16,vI 4]),(13,.agg #[.string ⟨#[97,100,100]⟩,.int .u8 17,vI 4]),(14,.agg #[.string ⟨#[115,117,98]⟩,.int .u8 18,vI 4]),(15,.agg #[.string ⟨#[109,117,108]⟩,.int .u8 19,vI 4]),(16,.agg #[.string ⟨#[100,105,118]⟩,.int .u8 20,vI 4]),(17,.agg #[.string ⟨#[97,110,100]⟩,.int .u8 21,vI 4]),(18,.agg #[.string ⟨#[111,114]⟩,.int .u8 22,vI 4]),(19,.agg #[.string ⟨#[120,111,114]⟩,.int .u8 23,vI 4]),(20,.agg #[.string ⟨#[115,104,108]⟩,.int .u8 24,vI 4]),(21,.agg #[.string ⟨#[115,104,114]⟩,.int .u8 25,vI 4]),(22,.agg #[.string ⟨#[108,116]⟩,.int .u8 26,vI 4]),(23,.agg #[.string ⟨#[101,113]⟩,.int .u8 27,vI 4]),(24,.agg #[.string ⟨#[108,100,98]⟩,.int .u8 28,vI 4]),(25,.agg #[.string ⟨#[108,100,119]⟩,.int .u8 29,vI 4]),(26,.agg #[.string ⟨#[108,100,109]⟩,.int .u8 30,vI 4]),(27,.agg #[.string ⟨#[115,116,109]⟩,.int .u8 31,vI 4]),(28,.agg #[.string ⟨#[122,109,111,118]⟩,.int .u8 32,vI 5]),(29,.agg #[.string ⟨#[122,97,100,100]⟩,.int .u8 33,vI 5]),(30,.agg #[.string ⟨#[122,115,117,98]⟩,.int .u8 34,vI 5]),(31,.agg #[.string ⟨#[122,109,117,108]⟩,.int .u8 35,vI 5]),(32,.agg #[.string ⟨#[122,114,101]⟩,.int .u8 36,vI 6]),(33,.agg #[.string ⟨#[122,105,109]⟩,.int .u8 37,vI 6]),(34,.agg #[.string ⟨#[122,115,101,116]⟩,.int .u8 38,vI 7]),(35,.agg #[.string ⟨#[108,105,115]⟩,.int .u8 48,vI 8]),(36,.agg #[.string ⟨#[116,114,97,112]⟩,.int .u8 49,vI 9]),(37,.agg #[.string ⟨#[108,105]⟩,.int .u8 50,vI 10]),(38,.agg #[.string ⟨#[108,100,112]⟩,.int .u8 51,vI 11]),(39,.agg #[.string ⟨#[106,109,112]⟩,.int .u8 64,vI 12]),(40,.agg #[.string ⟨#[99,97,108,108]⟩,.int .u8 67,vI 12]),(41,.agg #[.string ⟨#[106,122]⟩,.int .u8 70,vI 13]),(42,.agg #[.string ⟨#[106,110,122]⟩,.int .u8 73,vI 13])]) false [(false,[.slice 0])] fun a b c =>
 T.ret (.slice a b c)
theorem nq :aV Tryz.prog [] Tryz.f121 []=qR :=by kernel_rfl
end Go.Sx
