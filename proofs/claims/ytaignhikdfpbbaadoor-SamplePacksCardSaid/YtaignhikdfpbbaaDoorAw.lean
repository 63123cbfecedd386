/- The states that have taken in nothing, reckoned by the kernel. -/
import Derived.Test.YtaignhikdfpbbaaDoorKn
import Derived.Test.YtaignhikdfpbbaaDoorSk
namespace Go.Rx
set_option maxRecDepth 100000
theorem map_inj64 : ∀ {l m : List UInt64}, l.map (·.toNat) = m.map (·.toNat) → l = m
  | [], [], _ => rfl
  | [], _ :: _, h => by simp at h
  | _ :: _, [], h => by simp at h
  | x :: l, y :: m, h => by
    simp only [List.map_cons, List.cons.injEq] at h
    rw [UInt64.toNat_inj.1 h.1, map_inj64 h.2]
theorem kf_of (l m : List UInt64) (h : l.length = 25) (e : nkf (l.map (·.toNat)) = m.map (·.toNat)) : kf l = m := map_inj64 (by rw [← nkf_eq l h, e])
def lit_136_6 : List UInt64 := [7410425521722818471, 7121987202003222865, 18035012034529034485, 5351394012144785538, 16353532546077582930, 18412783603198760294, 9284587722384849545, 2944999383351570747, 264653659749781196, 8654012947508770025, 14017358335954132601, 2407256339670638387, 2895390452210067295, 15095255416571082424, 17316587762701255502, 6013984437109885360, 14035109111570034974, 7163060779998355890, 15638812977766777522, 10466102270734619430, 3745926604053256215, 3130384482864979544, 1444385073371977593, 9616104016769313630, 10525877764722749669]
theorem lay_136_6 : lay noughts (lastB 136 6 []) = ([6, 0, 0, 0, 0, 0, 0, 0, 0, 0, 0, 0, 0, 0, 0, 0, 9223372036854775808, 0, 0, 0, 0, 0, 0, 0, 0] : List UInt64) := by kernel_rfl
theorem abs_136_6 : absR 136 6 noughts [] = lit_136_6 := by
  have h : absR 136 6 noughts [] = kf (lay noughts (lastB 136 6 [])) := by rw [absR_end _ _ _ _ (by omega) (by simp)]
  rw [h, lay_136_6]
  exact kf_of _ _ (by kernel_rfl) (by kernel_rfl)
def lit_72_6 : List UInt64 := [14238757642774486950, 7959366979270718920, 6438144496634087831, 11997690870579909088, 5546734832493703701, 6396582807491699473, 16416665820397633781, 2795923003559736577, 13282117951445879606, 48870950907141411, 930731779054599654, 14244171329421887971, 7348615728317000581, 16386155042046134777, 564113939863501332, 9839499651820051713, 668451180115349340, 6218143520840299963, 14806252864250434341, 11447972881830101732, 1740256796205918954, 3116002073021387166, 8545309210240737294, 1848899012907195869, 17210406637760236757]
theorem lay_72_6 : lay noughts (lastB 72 6 []) = ([6, 0, 0, 0, 0, 0, 0, 0, 9223372036854775808, 0, 0, 0, 0, 0, 0, 0, 0, 0, 0, 0, 0, 0, 0, 0, 0] : List UInt64) := by kernel_rfl
theorem abs_72_6 : absR 72 6 noughts [] = lit_72_6 := by
  have h : absR 72 6 noughts [] = kf (lay noughts (lastB 72 6 [])) := by rw [absR_end _ _ _ _ (by omega) (by simp)]
  rw [h, lay_72_6]
  exact kf_of _ _ (by kernel_rfl) (by kernel_rfl)
def lit_168_31 : List UInt64 := [9043949231062883455, 4505013007965053025, 9853013927095450583, 2805574319695862507, 10613577533795250492, 7506090927794633744, 7179837696871367022, 16309696963834652828, 7123607453476632629, 8444243366050321080, 9840775137621348779, 12863776161131319861, 11914769427852615610, 4095277618251414511, 13603140465032731359, 16870573513866133276, 6223823698934615319, 12657591655303300899, 11494396118247999232, 17275150748729506326, 12248859137272637358, 919383550077094476, 7348884659982592767, 17136575678769697706, 14734622643927918517]
theorem lay_168_31 : lay noughts (lastB 168 31 []) = ([31, 0, 0, 0, 0, 0, 0, 0, 0, 0, 0, 0, 0, 0, 0, 0, 0, 0, 0, 0, 9223372036854775808, 0, 0, 0, 0] : List UInt64) := by kernel_rfl
theorem abs_168_31 : absR 168 31 noughts [] = lit_168_31 := by
  have h : absR 168 31 noughts [] = kf (lay noughts (lastB 168 31 [])) := by rw [absR_end _ _ _ _ (by omega) (by simp)]
  rw [h, lay_168_31]
  exact kf_of _ _ (by kernel_rfl) (by kernel_rfl)
def lit_136_31 : List UInt64 := [1408967024370891078, 2660288676776327971, 9375289784279420223, 3420155637137870005, 68328982030081495, 17767462936550376907, 9706552727850222332, 13746313944957331776, 6285249846908952084, 16382605403949050985, 8904622027833477084, 5992187373461210351, 13227060313046097460, 1175488182848616386, 16506064000904152792, 9714007992783491733, 15933519556721693171, 4217439691474232371, 13330507119975600100, 99872467501470269, 16297867810027944918, 15246305147534304439, 15630597895122669842, 8204945563355246737, 17039162632324942729]
theorem lay_136_31 : lay noughts (lastB 136 31 []) = ([31, 0, 0, 0, 0, 0, 0, 0, 0, 0, 0, 0, 0, 0, 0, 0, 9223372036854775808, 0, 0, 0, 0, 0, 0, 0, 0] : List UInt64) := by kernel_rfl
theorem abs_136_31 : absR 136 31 noughts [] = lit_136_31 := by
  have h : absR 136 31 noughts [] = kf (lay noughts (lastB 136 31 [])) := by rw [absR_end _ _ _ _ (by omega) (by simp)]
  rw [h, lay_136_31]
  exact kf_of _ _ (by kernel_rfl) (by kernel_rfl)
theorem aw_a : (sum256 []).take 4 = [167, 255, 198, 248] := by rw [sum256, abs_136_6]; kernel_rfl
theorem aw_b : (sum512 []).take 4 = [166, 159, 115, 204] := by rw [sum512, abs_72_6]; kernel_rfl
theorem aw_x : (xrun 168 (4 : Int).toNat (absR 168 31 noughts [], tk (absR 168 31 noughts []) 168, [])).2.2 = [127, 156, 43, 164] := by
  have hl := tk_len (absR 168 31 noughts []) 168 (by omega)
  rw [xrun_old _ _ (by omega) _ (by decide) (by show ¬ (tk _ _).length = 0; rw [hl]; decide), xrun_done _ _ _ (by show ¬ ([] ++ (tk _ _).take _).length < 4; rw [List.nil_append, List.length_take, hl]; decide)]
  show [] ++ (tk (absR 168 31 noughts []) 168).take (min (4 - 0) (tk (absR 168 31 noughts []) 168).length) = _
  rw [hl, abs_168_31]; kernel_rfl
theorem aw_y : (xrun 136 (4 : Int).toNat (absR 136 31 noughts [], tk (absR 136 31 noughts []) 136, [])).2.2 = [70, 185, 221, 43] := by
  have hl := tk_len (absR 136 31 noughts []) 136 (by omega)
  rw [xrun_old _ _ (by omega) _ (by decide) (by show ¬ (tk _ _).length = 0; rw [hl]; decide), xrun_done _ _ _ (by show ¬ ([] ++ (tk _ _).take _).length < 4; rw [List.nil_append, List.length_take, hl]; decide)]
  show [] ++ (tk (absR 136 31 noughts []) 136).take (min (4 - 0) (tk (absR 136 31 noughts []) 136).length) = _
  rw [hl, abs_136_31]; kernel_rfl
theorem aw_c : (absR 136 6 noughts []).getD 0 0 &&& 255 = 167 := by rw [abs_136_6]; kernel_rfl
end Go.Rx
