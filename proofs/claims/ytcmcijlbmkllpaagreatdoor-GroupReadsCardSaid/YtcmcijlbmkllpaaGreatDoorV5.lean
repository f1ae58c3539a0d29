/- The printed functions by their numbers. -/
import Derived.Test.YtcmcijlbmkllpaaGreatDoorV1
import Derived.Test.YtcmcijlbmkllpaaGreatDoorV2
import Derived.Test.YtcmcijlbmkllpaaGreatDoorV3
import Derived.Test.YtcmcijlbmkllpaaGreatDoorV4
import Derived.Test.YtcmcijlbmkllpaaGreatDoorV6
namespace Go.PE
open Go.Proofs
def litL : List (Nat × EFunc) := [
  (3, lit3),
  (6, lit6),
  (7, lit7),
  (8, lit8),
  (9, lit9),
  (10, lit10),
  (11, lit11),
  (12, lit12),
  (13, lit13),
  (14, lit14),
  (15, lit15),
  (16, lit16),
  (17, lit17),
  (20, lit20),
  (21, lit21),
  (23, lit23),
  (24, lit24),
  (25, lit25),
  (26, lit26),
  (27, lit27),
  (28, lit28),
  (29, lit29),
  (30, lit30),
  (31, lit31),
  (32, lit32),
  (33, lit33),
  (35, lit35),
  (36, lit36),
  (38, lit38),
  (39, lit39),
  (40, lit40),
  (41, lit41),
  (42, lit42),
  (43, lit43),
  (44, lit44),
  (45, lit45),
  (46, lit46),
  (47, lit47),
  (48, lit48),
  (49, lit49),
  (50, lit50),
  (51, lit51),
  (52, lit52),
  (53, lit53),
  (54, lit54),
  (55, lit55),
  (56, lit56),
  (57, lit57),
  (58, lit58),
  (59, lit59),
  (60, lit60),
  (61, lit61),
  (62, lit62),
  (63, lit63),
  (64, lit64),
  (65, lit65),
  (66, lit66),
  (67, lit67),
  (68, lit68),
  (71, lit71),
  (72, lit72),
  (73, lit73),
  (74, lit74),
  (75, lit75),
  (76, lit76),
  (77, lit77),
  (80, lit80),
  (81, lit81),
  (82, lit82),
  (83, lit83),
  (85, lit85),
  (86, lit86),
  (87, lit87),
  (88, lit88),
  (89, lit89),
  (90, lit90),
  (91, lit91),
  (92, lit92),
  (93, lit93),
  (94, lit94),
  (95, lit95),
  (96, lit96),
  (97, lit97),
  (98, lit98),
  (99, lit99),
  (100, lit100),
  (101, lit101),
  (102, lit102),
  (103, lit103),
  (104, lit104),
  (105, lit105),
  (106, lit106),
  (107, lit107),
  (108, lit108),
  (109, lit109),
  (110, lit110),
  (111, lit111),
  (112, lit112),
  (113, lit113),
  (114, lit114),
  (115, lit115),
  (118, lit118),
  (119, lit119),
  (124, lit124),
  (125, lit125),
  (126, lit126),
  (127, lit127),
  (128, lit128),
  (130, lit130),
  (131, lit131),
  (132, lit132),
  (133, lit133),
  (134, lit134),
  (135, lit135),
  (136, lit136),
  (137, lit137),
  (138, lit138),
  (139, lit139),
  (140, lit140),
  (146, lit146),
  (149, lit149),
  (150, lit150),
  (151, lit151),
  (152, lit152),
  (153, lit153),
  (154, lit154),
  (157, lit157),
  (158, lit158),
  (159, lit159),
  (160, lit160),
  (161, lit161),
  (162, lit162),
  (167, lit167),
  (168, lit168),
  (170, lit170),
  (172, lit172),
  (174, lit174),
  (175, lit175),
  (178, lit178),
  (184, lit184),
  (188, lit188),
  (189, lit189),
  (191, lit191),
  (196, lit196),
  (197, lit197),
  (198, lit198),
  (199, lit199),
  (201, lit201),
  (205, lit205),
  (214, lit214),
  (215, lit215),
  (216, lit216),
  (222, lit222),
  (223, lit223),
  (226, lit226),
  (227, lit227)]

theorem litL_ok : ∀ p ∈ litL, funcE Tryz.prog p.1 = some p.2 := by
  intro p hp
  simp only [litL, List.mem_cons, List.not_mem_nil, or_false] at hp
  rcases hp with rfl | rfl | rfl | rfl | rfl | rfl | rfl | rfl | rfl | rfl | rfl | rfl | rfl | rfl | rfl | rfl | rfl | rfl | rfl | rfl | rfl | rfl | rfl | rfl | rfl | rfl | rfl | rfl | rfl | rfl | rfl | rfl | rfl | rfl | rfl | rfl | rfl | rfl | rfl | rfl | rfl | rfl | rfl | rfl | rfl | rfl | rfl | rfl | rfl | rfl | rfl | rfl | rfl | rfl | rfl | rfl | rfl | rfl | rfl | rfl | rfl | rfl | rfl | rfl | rfl | rfl | rfl | rfl | rfl | rfl | rfl | rfl | rfl | rfl | rfl | rfl | rfl | rfl | rfl | rfl | rfl | rfl | rfl | rfl | rfl | rfl | rfl | rfl | rfl | rfl | rfl | rfl | rfl | rfl | rfl | rfl | rfl | rfl | rfl | rfl | rfl | rfl | rfl | rfl | rfl | rfl | rfl | rfl | rfl | rfl | rfl | rfl | rfl | rfl | rfl | rfl | rfl | rfl | rfl | rfl | rfl | rfl | rfl | rfl | rfl | rfl | rfl | rfl | rfl | rfl | rfl | rfl | rfl | rfl | rfl | rfl | rfl | rfl | rfl | rfl | rfl | rfl | rfl | rfl | rfl | rfl | rfl | rfl | rfl | rfl | rfl | rfl | rfl | rfl | rfl | rfl
  · exact lit3_ok
  · exact lit6_ok
  · exact lit7_ok
  · exact lit8_ok
  · exact lit9_ok
  · exact lit10_ok
  · exact lit11_ok
  · exact lit12_ok
  · exact lit13_ok
  · exact lit14_ok
  · exact lit15_ok
  · exact lit16_ok
  · exact lit17_ok
  · exact lit20_ok
  · exact lit21_ok
  · exact lit23_ok
  · exact lit24_ok
  · exact lit25_ok
  · exact lit26_ok
  · exact lit27_ok
  · exact lit28_ok
  · exact lit29_ok
  · exact lit30_ok
  · exact lit31_ok
  · exact lit32_ok
  · exact lit33_ok
  · exact lit35_ok
  · exact lit36_ok
  · exact lit38_ok
  · exact lit39_ok
  · exact lit40_ok
  · exact lit41_ok
  · exact lit42_ok
  · exact lit43_ok
  · exact lit44_ok
  · exact lit45_ok
  · exact lit46_ok
  · exact lit47_ok
  · exact lit48_ok
  · exact lit49_ok
  · exact lit50_ok
  · exact lit51_ok
  · exact lit52_ok
  · exact lit53_ok
  · exact lit54_ok
  · exact lit55_ok
  · exact lit56_ok
  · exact lit57_ok
  · exact lit58_ok
  · exact lit59_ok
  · exact lit60_ok
  · exact lit61_ok
  · exact lit62_ok
  · exact lit63_ok
  · exact lit64_ok
  · exact lit65_ok
  · exact lit66_ok
  · exact lit67_ok
  · exact lit68_ok
  · exact lit71_ok
  · exact lit72_ok
  · exact lit73_ok
  · exact lit74_ok
  · exact lit75_ok
  · exact lit76_ok
  · exact lit77_ok
  · exact lit80_ok
  · exact lit81_ok
  · exact lit82_ok
  · exact lit83_ok
  · exact lit85_ok
  · exact lit86_ok
  · exact lit87_ok
  · exact lit88_ok
  · exact lit89_ok
  · exact lit90_ok
  · exact lit91_ok
  · exact lit92_ok
  · exact lit93_ok
  · exact lit94_ok
  · exact lit95_ok
  · exact lit96_ok
  · exact lit97_ok
  · exact lit98_ok
  · exact lit99_ok
  · exact lit100_ok
  · exact lit101_ok
  · exact lit102_ok
  · exact lit103_ok
  · exact lit104_ok
  · exact lit105_ok
  · exact lit106_ok
  · exact lit107_ok
  · exact lit108_ok
  · exact lit109_ok
  · exact lit110_ok
  · exact lit111_ok
  · exact lit112_ok
  · exact lit113_ok
  · exact lit114_ok
  · exact lit115_ok
  · exact lit118_ok
  · exact lit119_ok
  · exact lit124_ok
  · exact lit125_ok
  · exact lit126_ok
  · exact lit127_ok
  · exact lit128_ok
  · exact lit130_ok
  · exact lit131_ok
  · exact lit132_ok
  · exact lit133_ok
  · exact lit134_ok
  · exact lit135_ok
  · exact lit136_ok
  · exact lit137_ok
  · exact lit138_ok
  · exact lit139_ok
  · exact lit140_ok
  · exact lit146_ok
  · exact lit149_ok
  · exact lit150_ok
  · exact lit151_ok
  · exact lit152_ok
  · exact lit153_ok
  · exact lit154_ok
  · exact lit157_ok
  · exact lit158_ok
  · exact lit159_ok
  · exact lit160_ok
  · exact lit161_ok
  · exact lit162_ok
  · exact lit167_ok
  · exact lit168_ok
  · exact lit170_ok
  · exact lit172_ok
  · exact lit174_ok
  · exact lit175_ok
  · exact lit178_ok
  · exact lit184_ok
  · exact lit188_ok
  · exact lit189_ok
  · exact lit191_ok
  · exact lit196_ok
  · exact lit197_ok
  · exact lit198_ok
  · exact lit199_ok
  · exact lit201_ok
  · exact lit205_ok
  · exact lit214_ok
  · exact lit215_ok
  · exact lit216_ok
  · exact lit222_ok
  · exact lit223_ok
  · exact lit226_ok
  · exact lit227_ok

/-- A printed function, by its number. -/
def litF (f : FuncId) : Option EFunc := (litL.find? fun p => Nat.beq p.1 f).map (·.2)

theorem litF_ok (f : FuncId) (ef : EFunc) (h : litF f = some ef) : funcE Tryz.prog f = some ef := by
  unfold litF at h
  rw [Option.map_eq_some_iff] at h
  obtain ⟨p, h1, rfl⟩ := h
  have h2 := litL_ok p (List.mem_of_find?_eq_some h1)
  have h3 := List.find?_some h1
  have h4 := Nat.eq_of_beq_eq_true h3
  rw [← h4]; exact h2

end Go.PE
