/- Tables of what functions answer in the runs of GroupReads (group 0), each entry reckoned by the kernel. -/
import Derived.Test.YtcmcijlbmkllpaaGreatDoorK2
import Derived.KernelRfl
namespace Go.PE
open Go.Proofs
set_option maxRecDepth 100000
def b13_0_g0 : List V := [qf, qs, qs, qs, qs, qf, qs, qs, qs, qs, qf, qs, qs, qs, qs, qf, qs, qs, qs, qs, qf, qs, qs, qs, qs, qf, qs, qs, qs, qs, (qw 0), (qb 0), qs, (qw 0), (qb 0), qs, (qw 0), (qb 0), qs]
noncomputable def t13_g0 : List Ent := [
  ([(.agg (patch [] b13_0_g0)), .nils], .val (.tup [(.agg [qf, qs, qs, qs, qs, qf, qs, qs, qs, qs, qf, qs, qs, qs, qs, qf, qs, qs, qs, qs, qf, qs, qs, qs, qs, qf, qs, qs, qs, qs, (qw 0), (qb 0), qs, (qw 0), (qb 0), qs, (qw 0), (qb 0), qs]), .nils]))]
def b14_0_g0 : List V := [qf, qs, qs, qs, qs, qf, qs, qs, qs, qs, qf, qs, qs, qs, qs, qf, qs, qs, qs, qs, qf, qs, qs, qs, qs, qf, qs, qs, qs, qs, (qw 0), (qb 0), qs, (qw 0), (qb 0), qs, (qw 0), (qb 0), qs]
noncomputable def t14_g0 : List Ent := [
  ([(.agg (patch [] b14_0_g0)), (.agg [(qb 2), (qw 1), (qb 5), (qb 0), (qb 0), qs])], .val (.agg [(qb 1), qs])),
  ([(.agg (patch [(0, qt), (0, (.str (bs [1, 120]))), (28, (qw 1))] b14_0_g0)), (.agg [(qb 2), (qw 1), (qb 5), (qb 0), (qb 0), qs])], .val (.agg [(qb 0), (.str (bs [1, 120]))])),
  ([(.agg (patch [(0, qt), (0, (.str (bs [2, 120]))), (28, (qw 2))] b14_0_g0)), (.agg [(qb 2), (qw 1), (qb 5), (qb 0), (qb 0), qs])], .val (.agg [(qb 0), (.str (bs [2, 120]))])),
  ([(.agg (patch [(0, qt), (0, (.str (bs [3, 120]))), (28, (qw 3))] b14_0_g0)), (.agg [(qb 2), (qw 1), (qb 5), (qb 0), (qb 0), qs])], .val (.agg [(qb 0), (.str (bs [3, 120]))])),
  ([(.agg (patch [(0, qt), (0, (.str (bs [4, 120]))), (28, (qw 4))] b14_0_g0)), (.agg [(qb 2), (qw 1), (qb 5), (qb 0), (qb 0), qs])], .val (.agg [(qb 0), (.str (bs [4, 120]))])),
  ([(.agg (patch [(0, qt), (0, (.str (bs [5, 120]))), (28, (qw 5))] b14_0_g0)), (.agg [(qb 2), (qw 1), (qb 5), (qb 0), (qb 0), qs])], .val (.agg [(qb 0), (.str (bs [5, 120]))])),
  ([(.agg (patch [(0, qt), (0, (.str (bs [6, 120]))), (28, (qw 6))] b14_0_g0)), (.agg [(qb 2), (qw 1), (qb 5), (qb 0), (qb 0), qs])], .val (.agg [(qb 0), (.str (bs [6, 120]))])),
  ([(.agg (patch [(0, qt), (0, (.str (bs [7, 120]))), (28, (qw 7))] b14_0_g0)), (.agg [(qb 2), (qw 1), (qb 5), (qb 0), (qb 0), qs])], .val (.agg [(qb 0), (.str (bs [7, 120]))])),
  ([(.agg (patch [(0, qt), (0, (.str (bs [8, 120]))), (28, (qw 8))] b14_0_g0)), (.agg [(qb 2), (qw 1), (qb 5), (qb 0), (qb 0), qs])], .val (.agg [(qb 0), (.str (bs [8, 120]))])),
  ([(.agg (patch [(0, qt), (0, (.str (bs [9, 120]))), (28, (qw 9))] b14_0_g0)), (.agg [(qb 2), (qw 1), (qb 5), (qb 0), (qb 0), qs])], .val (.agg [(qb 0), (.str (bs [9, 120]))])),
  ([(.agg (patch [(0, qt), (0, (.str (bs [10, 120]))), (28, (qw 10))] b14_0_g0)), (.agg [(qb 2), (qw 1), (qb 5), (qb 0), (qb 0), qs])], .val (.agg [(qb 0), (.str (bs [10, 120]))])),
  ([(.agg (patch [(0, qt), (0, (.str (bs [11, 120]))), (28, (qw 11))] b14_0_g0)), (.agg [(qb 2), (qw 1), (qb 5), (qb 0), (qb 0), qs])], .val (.agg [(qb 0), (.str (bs [11, 120]))]))]
def b21_0_g0 : List V := [(qw 0), qf, qs, qs, qs, qs, qf, qs, qs, qs, qs, qf, qs, qs, qs, qs, qf, qs, qs, qs, qs, qf, qs, qs, qs, qs, qf, qs, qs, qs, qs, (qw 0), (qb 0), qs, (qw 0), (qb 0), qs, (qw 0), (qb 0), qs, (qw 0), (qw 0), (qb 0), (qw 0), (qb 0), (qb 0), (qb 0), qs, (.psl 0 [])]
noncomputable def t21_g0 : List Ent := [
  ([(.agg (patch [] b21_0_g0))], .val (.tup [(qw 0), (qw 0)])),
  ([(.agg (patch [(0, (qw 1))] b21_0_g0))], .val (.tup [(qw 0), (qw 0)])),
  ([(.agg (patch [(0, (qw 1)), (47, (.psl 1 [(qw 1), (qw 1), (qb 1), (qw 1), (qb 1), (qb 0), (qb 0), (.str (bs [1, 120]))]))] b21_0_g0))], .val (.tup [(qw 1), (qw 1)])),
  ([(.agg (patch [(0, (qw 1)), (47, (.psl 2 [(qw 1), (qw 1), (qb 1), (qw 1), (qb 1), (qb 0), (qb 0), (.str (bs [1, 120])), (qw 1), (qw 2), (qb 1), (qw 2), (qb 1), (qb 0), (qb 0), (.str (bs [2, 120]))]))] b21_0_g0))], .val (.tup [(qw 1), (qw 2)])),
  ([(.agg (patch [(0, (qw 1)), (47, (.psl 3 [(qw 1), (qw 1), (qb 1), (qw 1), (qb 1), (qb 0), (qb 0), (.str (bs [1, 120])), (qw 1), (qw 2), (qb 1), (qw 2), (qb 1), (qb 0), (qb 0), (.str (bs [2, 120])), (qw 1), (qw 3), (qb 1), (qw 3), (qb 1), (qb 0), (qb 0), (.str (bs [3, 120]))]))] b21_0_g0))], .val (.tup [(qw 1), (qw 3)])),
  ([(.agg (patch [(0, (qw 1)), (47, (.psl 4 [(qw 1), (qw 1), (qb 1), (qw 1), (qb 1), (qb 0), (qb 0), (.str (bs [1, 120])), (qw 1), (qw 2), (qb 1), (qw 2), (qb 1), (qb 0), (qb 0), (.str (bs [2, 120])), (qw 1), (qw 3), (qb 1), (qw 3), (qb 1), (qb 0), (qb 0), (.str (bs [3, 120])), (qw 1), (qw 4), (qb 1), (qw 4), (qb 1), (qb 0), (qb 0), (.str (bs [4, 120]))]))] b21_0_g0))], .val (.tup [(qw 1), (qw 4)])),
  ([(.agg (patch [(0, (qw 1)), (47, (.psl 5 [(qw 1), (qw 1), (qb 1), (qw 1), (qb 1), (qb 0), (qb 0), (.str (bs [1, 120])), (qw 1), (qw 2), (qb 1), (qw 2), (qb 1), (qb 0), (qb 0), (.str (bs [2, 120])), (qw 1), (qw 3), (qb 1), (qw 3), (qb 1), (qb 0), (qb 0), (.str (bs [3, 120])), (qw 1), (qw 4), (qb 1), (qw 4), (qb 1), (qb 0), (qb 0), (.str (bs [4, 120])), (qw 1), (qw 5), (qb 1), (qw 5), (qb 1), (qb 0), (qb 0), (.str (bs [5, 120]))]))] b21_0_g0))], .val (.tup [(qw 1), (qw 5)])),
  ([(.agg (patch [(0, (qw 1)), (47, (.psl 6 [(qw 1), (qw 1), (qb 1), (qw 1), (qb 1), (qb 0), (qb 0), (.str (bs [1, 120])), (qw 1), (qw 2), (qb 1), (qw 2), (qb 1), (qb 0), (qb 0), (.str (bs [2, 120])), (qw 1), (qw 3), (qb 1), (qw 3), (qb 1), (qb 0), (qb 0), (.str (bs [3, 120])), (qw 1), (qw 4), (qb 1), (qw 4), (qb 1), (qb 0), (qb 0), (.str (bs [4, 120])), (qw 1), (qw 5), (qb 1), (qw 5), (qb 1), (qb 0), (qb 0), (.str (bs [5, 120])), (qw 1), (qw 6), (qb 1), (qw 6), (qb 1), (qb 0), (qb 0), (.str (bs [6, 120]))]))] b21_0_g0))], .val (.tup [(qw 1), (qw 6)])),
  ([(.agg (patch [(0, (qw 1)), (0, qt), (0, (.str (bs [1, 120]))), (28, (qw 1)), (8, (qw 1)), (0, (qw 1)), (6, (.psl 6 [(qw 1), (qw 2), (qb 1), (qw 2), (qb 1), (qb 0), (qb 0), (.str (bs [2, 120])), (qw 1), (qw 3), (qb 1), (qw 3), (qb 1), (qb 0), (qb 0), (.str (bs [3, 120])), (qw 1), (qw 4), (qb 1), (qw 4), (qb 1), (qb 0), (qb 0), (.str (bs [4, 120])), (qw 1), (qw 5), (qb 1), (qw 5), (qb 1), (qb 0), (qb 0), (.str (bs [5, 120])), (qw 1), (qw 6), (qb 1), (qw 6), (qb 1), (qb 0), (qb 0), (.str (bs [6, 120])), (qw 1), (qw 7), (qb 1), (qw 7), (qb 1), (qb 0), (qb 0), (.str (bs [7, 120]))]))] b21_0_g0))], .val (.tup [(qw 1), (qw 7)])),
  ([(.agg (patch [(0, (qw 1)), (0, qt), (0, (.str (bs [2, 120]))), (28, (qw 2)), (8, (qw 1)), (0, (qw 2)), (6, (.psl 6 [(qw 1), (qw 3), (qb 1), (qw 3), (qb 1), (qb 0), (qb 0), (.str (bs [3, 120])), (qw 1), (qw 4), (qb 1), (qw 4), (qb 1), (qb 0), (qb 0), (.str (bs [4, 120])), (qw 1), (qw 5), (qb 1), (qw 5), (qb 1), (qb 0), (qb 0), (.str (bs [5, 120])), (qw 1), (qw 6), (qb 1), (qw 6), (qb 1), (qb 0), (qb 0), (.str (bs [6, 120])), (qw 1), (qw 7), (qb 1), (qw 7), (qb 1), (qb 0), (qb 0), (.str (bs [7, 120])), (qw 1), (qw 8), (qb 1), (qw 8), (qb 1), (qb 0), (qb 0), (.str (bs [8, 120]))]))] b21_0_g0))], .val (.tup [(qw 1), (qw 8)])),
  ([(.agg (patch [(0, (qw 1)), (0, qt), (0, (.str (bs [3, 120]))), (28, (qw 3)), (8, (qw 1)), (0, (qw 3)), (6, (.psl 6 [(qw 1), (qw 4), (qb 1), (qw 4), (qb 1), (qb 0), (qb 0), (.str (bs [4, 120])), (qw 1), (qw 5), (qb 1), (qw 5), (qb 1), (qb 0), (qb 0), (.str (bs [5, 120])), (qw 1), (qw 6), (qb 1), (qw 6), (qb 1), (qb 0), (qb 0), (.str (bs [6, 120])), (qw 1), (qw 7), (qb 1), (qw 7), (qb 1), (qb 0), (qb 0), (.str (bs [7, 120])), (qw 1), (qw 8), (qb 1), (qw 8), (qb 1), (qb 0), (qb 0), (.str (bs [8, 120])), (qw 1), (qw 9), (qb 1), (qw 9), (qb 1), (qb 0), (qb 0), (.str (bs [9, 120]))]))] b21_0_g0))], .val (.tup [(qw 1), (qw 9)])),
  ([(.agg (patch [(0, (qw 1)), (0, qt), (0, (.str (bs [4, 120]))), (28, (qw 4)), (8, (qw 1)), (0, (qw 4)), (6, (.psl 6 [(qw 1), (qw 5), (qb 1), (qw 5), (qb 1), (qb 0), (qb 0), (.str (bs [5, 120])), (qw 1), (qw 6), (qb 1), (qw 6), (qb 1), (qb 0), (qb 0), (.str (bs [6, 120])), (qw 1), (qw 7), (qb 1), (qw 7), (qb 1), (qb 0), (qb 0), (.str (bs [7, 120])), (qw 1), (qw 8), (qb 1), (qw 8), (qb 1), (qb 0), (qb 0), (.str (bs [8, 120])), (qw 1), (qw 9), (qb 1), (qw 9), (qb 1), (qb 0), (qb 0), (.str (bs [9, 120])), (qw 1), (qw 10), (qb 1), (qw 10), (qb 1), (qb 0), (qb 0), (.str (bs [10, 120]))]))] b21_0_g0))], .val (.tup [(qw 1), (qw 10)])),
  ([(.agg (patch [(0, (qw 1)), (0, qt), (0, (.str (bs [5, 120]))), (28, (qw 5)), (8, (qw 1)), (0, (qw 5)), (6, (.psl 6 [(qw 1), (qw 6), (qb 1), (qw 6), (qb 1), (qb 0), (qb 0), (.str (bs [6, 120])), (qw 1), (qw 7), (qb 1), (qw 7), (qb 1), (qb 0), (qb 0), (.str (bs [7, 120])), (qw 1), (qw 8), (qb 1), (qw 8), (qb 1), (qb 0), (qb 0), (.str (bs [8, 120])), (qw 1), (qw 9), (qb 1), (qw 9), (qb 1), (qb 0), (qb 0), (.str (bs [9, 120])), (qw 1), (qw 10), (qb 1), (qw 10), (qb 1), (qb 0), (qb 0), (.str (bs [10, 120])), (qw 1), (qw 11), (qb 1), (qw 11), (qb 1), (qb 0), (qb 0), (.str (bs [11, 120]))]))] b21_0_g0))], .val (.tup [(qw 1), (qw 11)]))]
def b30_0_g0 : List V := [(qb 15), (qb 22), (qb 10), (qw 0), (qw 0), (qb 0), (qw 0), (qb 0), qf, (qb 0), (qb 0), (qi 0), (qb 0), (qw 0), qf, qs, qs, qs, qs, qf, qs, qs, qs, qs, qf, qs, qs, qs, qs, qf, qs, qs, qs, qs, qf, qs, qs, qs, qs, qf, qs, qs, qs, qs, (qw 0), (qb 0), qs, (qw 0), (qb 0), qs, (qw 0), (qb 0), qs, (qw 0), (qw 0), (qb 0), (qw 0), (qb 0), (qb 0), (qb 0), qs, .nils, (qi 0), (qw 0), .nils, (qw 0), qf, qs, qs, qs, qs, qf, qs, qs, qs, qs, qf, qs, qs, qs, qs, qf, qs, qs, qs, qs, qf, qs, qs, qs, qs, qf, qs, qs, qs, qs, (qw 0), (qb 0), qs, (qw 0), (qb 0), qs, (qw 0), (qb 0), qs, (qw 0), (qw 0), (qb 0), (qw 0), (qb 0), (qb 0), (qb 0), qs, .nils, (qw 0), (qw 0), (qb 0), (qw 0), (qb 0), (qb 0), (qb 0), qs, (qw 0), (qb 2), (qw 1), (qb 5), (qb 0), (qb 0), qs, (qb 0), qs]
noncomputable def t30_g0 : List Ent := [
  ([(.agg (patch [] b30_0_g0))], .val qt),
  ([(.agg (patch [(0, (qb 7)), (0, (qb 14)), (1, (qw 1)), (119, (qb 0)), (0, (qw 0)), (0, (qb 0))] b30_0_g0))], .val qt),
  ([(.agg (patch [(0, (qb 7)), (0, (qb 14)), (0, (qb 11)), (0, (qw 1)), (119, (qb 0)), (0, (qw 0)), (0, (qb 0))] b30_0_g0))], .val qt),
  ([(.agg (patch [(0, (qb 7)), (0, (qb 14)), (0, (qb 12)), (0, (qw 1)), (119, (qb 0)), (0, (qw 0)), (0, (qb 0))] b30_0_g0))], .val qt),
  ([(.agg (patch [(0, (qb 7)), (0, (qb 14)), (0, (qb 13)), (0, (qw 1)), (119, (qb 0)), (0, (qw 0)), (0, (qb 0))] b30_0_g0))], .val qt),
  ([(.agg (patch [(0, (qb 8)), (0, (qb 10)), (0, (qb 14)), (0, (qw 1)), (57, (.psl 0 [])), (61, (qb 0)), (0, (qw 0)), (0, (qb 0))] b30_0_g0))], .val qt),
  ([(.agg (patch [(0, (qb 8)), (0, (qb 11)), (0, (qb 14)), (0, (qw 1)), (57, (.psl 0 [])), (61, (qb 0)), (0, (qw 0)), (0, (qb 0))] b30_0_g0))], .val qt),
  ([(.agg (patch [(0, (qb 8)), (0, (qb 12)), (0, (qb 14)), (0, (qw 1)), (57, (.psl 0 [])), (61, (qb 0)), (0, (qw 0)), (0, (qb 0))] b30_0_g0))], .val qt),
  ([(.agg (patch [(0, (qb 8)), (0, (qb 13)), (0, (qb 14)), (0, (qw 1)), (57, (.psl 0 [])), (61, (qb 0)), (0, (qw 0)), (0, (qb 0))] b30_0_g0))], .val qt),
  ([(.agg (patch [(0, (qb 9)), (0, (qb 14)), (0, (qb 12)), (0, (qw 1)), (61, (qw 1)), (57, (qb 0)), (0, (qw 0)), (0, (qb 0))] b30_0_g0))], .val qt),
  ([(.agg (patch [(0, (qb 9)), (0, (qb 14)), (0, (qb 13)), (0, (qw 1)), (61, (qw 1)), (57, (qb 0)), (0, (qw 0)), (0, (qb 0))] b30_0_g0))], .val qt),
  ([(.agg (patch [(0, (qb 10)), (0, (qb 12)), (0, (qb 14)), (0, (qw 1)), (119, (qb 0)), (0, (qw 0)), (0, (qb 0))] b30_0_g0))], .val qt),
  ([(.agg (patch [(0, (qb 10)), (0, (qb 13)), (0, (qb 14)), (0, (qw 1)), (119, (qb 0)), (0, (qw 0)), (0, (qb 0))] b30_0_g0))], .val qt),
  ([(.agg (patch [(2, (qb 11))] b30_0_g0))], .val qt),
  ([(.agg (patch [(2, (qb 12))] b30_0_g0))], .val qt),
  ([(.agg (patch [(2, (qb 13))] b30_0_g0))], .val qt),
  ([(.agg (patch [(2, (qb 14))] b30_0_g0))], .val qt),
  ([(.agg (patch [(0, (qb 13)), (0, (qb 14)), (0, (qb 12)), (0, (qw 1))] b30_0_g0))], .val qt),
  ([(.agg (patch [(0, (qb 13)), (0, (qb 14)), (0, (qb 13)), (0, (qw 1))] b30_0_g0))], .val qt),
  ([(.agg (patch [(0, (qb 14)), (0, (qb 12)), (0, (qb 14)), (0, (qw 1))] b30_0_g0))], .val qt),
  ([(.agg (patch [(0, (qb 14)), (0, (qb 13)), (0, (qb 14)), (0, (qw 1))] b30_0_g0))], .val qt),
  ([(.agg (patch [(1, (qb 21)), (0, (qb 14)), (120, (qb 1)), (1, (qb 1)), (2, (.str (bs [1, 120])))] b30_0_g0))], .val qt),
  ([(.agg (patch [(0, (qb 11)), (0, (qb 14)), (0, (qb 12)), (0, (qw 1)), (110, (qw 1)), (0, (qw 1)), (0, (qb 1)), (0, (qw 1)), (0, (qb 1)), (2, (.str (bs [1, 120]))), (1, (qb 0)), (0, (qw 0)), (0, (qb 0))] b30_0_g0))], .val qt),
  ([(.agg (patch [(0, (qb 11)), (0, (qb 14)), (0, (qb 13)), (0, (qw 1)), (110, (qw 1)), (0, (qw 1)), (0, (qb 1)), (0, (qw 1)), (0, (qb 1)), (2, (.str (bs [1, 120]))), (1, (qb 0)), (0, (qw 0)), (0, (qb 0))] b30_0_g0))], .val qt),
  ([(.agg (patch [(0, (qb 12)), (0, (qb 12)), (0, (qb 14)), (0, (qw 1)), (118, (qw 1)), (0, (qb 0)), (0, (qw 0)), (0, (qb 0))] b30_0_g0))], .val qt),
  ([(.agg (patch [(0, (qb 12)), (0, (qb 13)), (0, (qb 14)), (0, (qw 1)), (118, (qw 1)), (0, (qb 0)), (0, (qw 0)), (0, (qb 0))] b30_0_g0))], .val qt),
  ([(.agg (patch [(1, (qb 21)), (0, (qb 14)), (120, (qb 1)), (0, (qw 2)), (0, (qb 1)), (2, (.str (bs [2, 120])))] b30_0_g0))], .val qt),
  ([(.agg (patch [(0, (qb 11)), (0, (qb 14)), (0, (qb 12)), (0, (qw 1)), (110, (qw 1)), (0, (qw 2)), (0, (qb 1)), (0, (qw 2)), (0, (qb 1)), (2, (.str (bs [2, 120]))), (1, (qb 0)), (0, (qw 0)), (0, (qb 0))] b30_0_g0))], .val qt),
  ([(.agg (patch [(0, (qb 11)), (0, (qb 14)), (0, (qb 13)), (0, (qw 1)), (110, (qw 1)), (0, (qw 2)), (0, (qb 1)), (0, (qw 2)), (0, (qb 1)), (2, (.str (bs [2, 120]))), (1, (qb 0)), (0, (qw 0)), (0, (qb 0))] b30_0_g0))], .val qt),
  ([(.agg (patch [(0, (qb 12)), (0, (qb 12)), (0, (qb 14)), (0, (qw 1)), (118, (qw 2)), (0, (qb 0)), (0, (qw 0)), (0, (qb 0))] b30_0_g0))], .val qt),
  ([(.agg (patch [(0, (qb 12)), (0, (qb 13)), (0, (qb 14)), (0, (qw 1)), (118, (qw 2)), (0, (qb 0)), (0, (qw 0)), (0, (qb 0))] b30_0_g0))], .val qt),
  ([(.agg (patch [(1, (qb 21)), (0, (qb 14)), (120, (qb 1)), (0, (qw 3)), (0, (qb 1)), (2, (.str (bs [3, 120])))] b30_0_g0))], .val qt),
  ([(.agg (patch [(0, (qb 11)), (0, (qb 14)), (0, (qb 12)), (0, (qw 1)), (110, (qw 1)), (0, (qw 3)), (0, (qb 1)), (0, (qw 3)), (0, (qb 1)), (2, (.str (bs [3, 120]))), (1, (qb 0)), (0, (qw 0)), (0, (qb 0))] b30_0_g0))], .val qt),
  ([(.agg (patch [(0, (qb 11)), (0, (qb 14)), (0, (qb 13)), (0, (qw 1)), (110, (qw 1)), (0, (qw 3)), (0, (qb 1)), (0, (qw 3)), (0, (qb 1)), (2, (.str (bs [3, 120]))), (1, (qb 0)), (0, (qw 0)), (0, (qb 0))] b30_0_g0))], .val qt),
  ([(.agg (patch [(0, (qb 12)), (0, (qb 12)), (0, (qb 14)), (0, (qw 1)), (118, (qw 3)), (0, (qb 0)), (0, (qw 0)), (0, (qb 0))] b30_0_g0))], .val qt),
  ([(.agg (patch [(0, (qb 12)), (0, (qb 13)), (0, (qb 14)), (0, (qw 1)), (118, (qw 3)), (0, (qb 0)), (0, (qw 0)), (0, (qb 0))] b30_0_g0))], .val qt),
  ([(.agg (patch [(1, (qb 21)), (0, (qb 14)), (120, (qb 1)), (0, (qw 4)), (0, (qb 1)), (2, (.str (bs [4, 120])))] b30_0_g0))], .val qt),
  ([(.agg (patch [(0, (qb 11)), (0, (qb 14)), (0, (qb 12)), (0, (qw 1)), (110, (qw 1)), (0, (qw 4)), (0, (qb 1)), (0, (qw 4)), (0, (qb 1)), (2, (.str (bs [4, 120]))), (1, (qb 0)), (0, (qw 0)), (0, (qb 0))] b30_0_g0))], .val qt),
  ([(.agg (patch [(0, (qb 11)), (0, (qb 14)), (0, (qb 13)), (0, (qw 1)), (110, (qw 1)), (0, (qw 4)), (0, (qb 1)), (0, (qw 4)), (0, (qb 1)), (2, (.str (bs [4, 120]))), (1, (qb 0)), (0, (qw 0)), (0, (qb 0))] b30_0_g0))], .val qt),
  ([(.agg (patch [(0, (qb 12)), (0, (qb 12)), (0, (qb 14)), (0, (qw 1)), (118, (qw 4)), (0, (qb 0)), (0, (qw 0)), (0, (qb 0))] b30_0_g0))], .val qt),
  ([(.agg (patch [(0, (qb 12)), (0, (qb 13)), (0, (qb 14)), (0, (qw 1)), (118, (qw 4)), (0, (qb 0)), (0, (qw 0)), (0, (qb 0))] b30_0_g0))], .val qt),
  ([(.agg (patch [(1, (qb 21)), (0, (qb 14)), (120, (qb 1)), (0, (qw 5)), (0, (qb 1)), (2, (.str (bs [5, 120])))] b30_0_g0))], .val qt),
  ([(.agg (patch [(0, (qb 11)), (0, (qb 14)), (0, (qb 12)), (0, (qw 1)), (110, (qw 1)), (0, (qw 5)), (0, (qb 1)), (0, (qw 5)), (0, (qb 1)), (2, (.str (bs [5, 120]))), (1, (qb 0)), (0, (qw 0)), (0, (qb 0))] b30_0_g0))], .val qt),
  ([(.agg (patch [(0, (qb 11)), (0, (qb 14)), (0, (qb 13)), (0, (qw 1)), (110, (qw 1)), (0, (qw 5)), (0, (qb 1)), (0, (qw 5)), (0, (qb 1)), (2, (.str (bs [5, 120]))), (1, (qb 0)), (0, (qw 0)), (0, (qb 0))] b30_0_g0))], .val qt),
  ([(.agg (patch [(0, (qb 12)), (0, (qb 12)), (0, (qb 14)), (0, (qw 1)), (118, (qw 5)), (0, (qb 0)), (0, (qw 0)), (0, (qb 0))] b30_0_g0))], .val qt),
  ([(.agg (patch [(0, (qb 12)), (0, (qb 13)), (0, (qb 14)), (0, (qw 1)), (118, (qw 5)), (0, (qb 0)), (0, (qw 0)), (0, (qb 0))] b30_0_g0))], .val qt),
  ([(.agg (patch [(1, (qb 21)), (0, (qb 14)), (120, (qb 1)), (0, (qw 6)), (0, (qb 1)), (2, (.str (bs [6, 120])))] b30_0_g0))], .val qt),
  ([(.agg (patch [(0, (qb 11)), (0, (qb 14)), (0, (qb 12)), (0, (qw 1)), (110, (qw 1)), (0, (qw 6)), (0, (qb 1)), (0, (qw 6)), (0, (qb 1)), (2, (.str (bs [6, 120]))), (1, (qb 0)), (0, (qw 0)), (0, (qb 0))] b30_0_g0))], .val qt),
  ([(.agg (patch [(0, (qb 11)), (0, (qb 14)), (0, (qb 13)), (0, (qw 1)), (110, (qw 1)), (0, (qw 6)), (0, (qb 1)), (0, (qw 6)), (0, (qb 1)), (2, (.str (bs [6, 120]))), (1, (qb 0)), (0, (qw 0)), (0, (qb 0))] b30_0_g0))], .val qt),
  ([(.agg (patch [(0, (qb 12)), (0, (qb 12)), (0, (qb 14)), (0, (qw 1)), (118, (qw 6)), (0, (qb 0)), (0, (qw 0)), (0, (qb 0))] b30_0_g0))], .val qt),
  ([(.agg (patch [(0, (qb 12)), (0, (qb 13)), (0, (qb 14)), (0, (qw 1)), (118, (qw 6)), (0, (qb 0)), (0, (qw 0)), (0, (qb 0))] b30_0_g0))], .val qt),
  ([(.agg (patch [(1, (qb 21)), (0, (qb 14)), (120, (qb 1)), (0, (qw 7)), (0, (qb 1)), (2, (.str (bs [7, 120])))] b30_0_g0))], .val qt),
  ([(.agg (patch [(0, (qb 11)), (0, (qb 14)), (0, (qb 12)), (0, (qw 1)), (110, (qw 1)), (0, (qw 7)), (0, (qb 1)), (0, (qw 7)), (0, (qb 1)), (2, (.str (bs [7, 120]))), (1, (qb 0)), (0, (qw 0)), (0, (qb 0))] b30_0_g0))], .val qt),
  ([(.agg (patch [(0, (qb 11)), (0, (qb 14)), (0, (qb 13)), (0, (qw 1)), (110, (qw 1)), (0, (qw 7)), (0, (qb 1)), (0, (qw 7)), (0, (qb 1)), (2, (.str (bs [7, 120]))), (1, (qb 0)), (0, (qw 0)), (0, (qb 0))] b30_0_g0))], .val qt),
  ([(.agg (patch [(0, (qb 12)), (0, (qb 12)), (0, (qb 14)), (0, (qw 1)), (118, (qw 7)), (0, (qb 0)), (0, (qw 0)), (0, (qb 0))] b30_0_g0))], .val qt),
  ([(.agg (patch [(0, (qb 12)), (0, (qb 13)), (0, (qb 14)), (0, (qw 1)), (118, (qw 7)), (0, (qb 0)), (0, (qw 0)), (0, (qb 0))] b30_0_g0))], .val qt),
  ([(.agg (patch [(1, (qb 21)), (0, (qb 14)), (120, (qb 1)), (0, (qw 8)), (0, (qb 1)), (2, (.str (bs [8, 120])))] b30_0_g0))], .val qt),
  ([(.agg (patch [(0, (qb 11)), (0, (qb 14)), (0, (qb 12)), (0, (qw 1)), (110, (qw 1)), (0, (qw 8)), (0, (qb 1)), (0, (qw 8)), (0, (qb 1)), (2, (.str (bs [8, 120]))), (1, (qb 0)), (0, (qw 0)), (0, (qb 0))] b30_0_g0))], .val qt),
  ([(.agg (patch [(0, (qb 11)), (0, (qb 14)), (0, (qb 13)), (0, (qw 1)), (110, (qw 1)), (0, (qw 8)), (0, (qb 1)), (0, (qw 8)), (0, (qb 1)), (2, (.str (bs [8, 120]))), (1, (qb 0)), (0, (qw 0)), (0, (qb 0))] b30_0_g0))], .val qt),
  ([(.agg (patch [(0, (qb 12)), (0, (qb 12)), (0, (qb 14)), (0, (qw 1)), (118, (qw 8)), (0, (qb 0)), (0, (qw 0)), (0, (qb 0))] b30_0_g0))], .val qt),
  ([(.agg (patch [(0, (qb 12)), (0, (qb 13)), (0, (qb 14)), (0, (qw 1)), (118, (qw 8)), (0, (qb 0)), (0, (qw 0)), (0, (qb 0))] b30_0_g0))], .val qt),
  ([(.agg (patch [(1, (qb 21)), (0, (qb 14)), (120, (qb 1)), (0, (qw 9)), (0, (qb 1)), (2, (.str (bs [9, 120])))] b30_0_g0))], .val qt),
  ([(.agg (patch [(0, (qb 11)), (0, (qb 14)), (0, (qb 12)), (0, (qw 1)), (110, (qw 1)), (0, (qw 9)), (0, (qb 1)), (0, (qw 9)), (0, (qb 1)), (2, (.str (bs [9, 120]))), (1, (qb 0)), (0, (qw 0)), (0, (qb 0))] b30_0_g0))], .val qt),
  ([(.agg (patch [(0, (qb 11)), (0, (qb 14)), (0, (qb 13)), (0, (qw 1)), (110, (qw 1)), (0, (qw 9)), (0, (qb 1)), (0, (qw 9)), (0, (qb 1)), (2, (.str (bs [9, 120]))), (1, (qb 0)), (0, (qw 0)), (0, (qb 0))] b30_0_g0))], .val qt),
  ([(.agg (patch [(0, (qb 12)), (0, (qb 12)), (0, (qb 14)), (0, (qw 1)), (118, (qw 9)), (0, (qb 0)), (0, (qw 0)), (0, (qb 0))] b30_0_g0))], .val qt),
  ([(.agg (patch [(0, (qb 12)), (0, (qb 13)), (0, (qb 14)), (0, (qw 1)), (118, (qw 9)), (0, (qb 0)), (0, (qw 0)), (0, (qb 0))] b30_0_g0))], .val qt),
  ([(.agg (patch [(1, (qb 21)), (0, (qb 14)), (120, (qb 1)), (0, (qw 10)), (0, (qb 1)), (2, (.str (bs [10, 120])))] b30_0_g0))], .val qt),
  ([(.agg (patch [(0, (qb 11)), (0, (qb 14)), (0, (qb 12)), (0, (qw 1)), (110, (qw 1)), (0, (qw 10)), (0, (qb 1)), (0, (qw 10)), (0, (qb 1)), (2, (.str (bs [10, 120]))), (1, (qb 0)), (0, (qw 0)), (0, (qb 0))] b30_0_g0))], .val qt),
  ([(.agg (patch [(0, (qb 11)), (0, (qb 14)), (0, (qb 13)), (0, (qw 1)), (110, (qw 1)), (0, (qw 10)), (0, (qb 1)), (0, (qw 10)), (0, (qb 1)), (2, (.str (bs [10, 120]))), (1, (qb 0)), (0, (qw 0)), (0, (qb 0))] b30_0_g0))], .val qt),
  ([(.agg (patch [(0, (qb 12)), (0, (qb 12)), (0, (qb 14)), (0, (qw 1)), (118, (qw 10)), (0, (qb 0)), (0, (qw 0)), (0, (qb 0))] b30_0_g0))], .val qt),
  ([(.agg (patch [(0, (qb 12)), (0, (qb 13)), (0, (qb 14)), (0, (qw 1)), (118, (qw 10)), (0, (qb 0)), (0, (qw 0)), (0, (qb 0))] b30_0_g0))], .val qt),
  ([(.agg (patch [(1, (qb 21)), (0, (qb 14)), (120, (qb 1)), (0, (qw 11)), (0, (qb 1)), (2, (.str (bs [11, 120])))] b30_0_g0))], .val qt),
  ([(.agg (patch [(0, (qb 11)), (0, (qb 14)), (0, (qb 12)), (0, (qw 1)), (110, (qw 1)), (0, (qw 11)), (0, (qb 1)), (0, (qw 11)), (0, (qb 1)), (2, (.str (bs [11, 120]))), (1, (qb 0)), (0, (qw 0)), (0, (qb 0))] b30_0_g0))], .val qt),
  ([(.agg (patch [(0, (qb 11)), (0, (qb 14)), (0, (qb 13)), (0, (qw 1)), (110, (qw 1)), (0, (qw 11)), (0, (qb 1)), (0, (qw 11)), (0, (qb 1)), (2, (.str (bs [11, 120]))), (1, (qb 0)), (0, (qw 0)), (0, (qb 0))] b30_0_g0))], .val qt),
  ([(.agg (patch [(0, (qb 12)), (0, (qb 12)), (0, (qb 14)), (0, (qw 1)), (118, (qw 11)), (0, (qb 0)), (0, (qw 0)), (0, (qb 0))] b30_0_g0))], .val qt),
  ([(.agg (patch [(0, (qb 12)), (0, (qb 13)), (0, (qb 14)), (0, (qw 1)), (118, (qw 11)), (0, (qb 0)), (0, (qw 0)), (0, (qb 0))] b30_0_g0))], .val qt)]
def b39_0_g0 : List V := [(qw 1), qf, qs, qs, qs, qs, qf, qs, qs, qs, qs, qf, qs, qs, qs, qs, qf, qs, qs, qs, qs, qf, qs, qs, qs, qs, qf, qs, qs, qs, qs, (qw 0), (qb 0), qs, (qw 0), (qb 0), qs, (qw 0), (qb 0), qs, (qw 0), (qw 0), (qb 0), (qw 0), (qb 0), (qb 0), (qb 0), qs, (.psl 0 [])]
def b39_1_g0 : List V := [(qw 1), qf, qs, qs, qs, qs, qf, qs, qs, qs, qs, qf, qs, qs, qs, qs, qf, qs, qs, qs, qs, qf, qs, qs, qs, qs, qf, qs, qs, qs, qs, (qw 0), (qb 0), qs, (qw 0), (qb 0), qs, (qw 0), (qb 0), qs, (qw 0), (qw 0), (qb 0), (qw 0), (qb 0), (qb 0), (qb 0), qs, (.psl 0 [])]
noncomputable def t39_g0 : List Ent := [
  ([(.agg (patch [] b39_0_g0)), (.agg (patch [] b39_1_g0))], .val qt)]
def b41_0_g0 : List V := [(qw 0), qf, qs, qs, qs, qs, qf, qs, qs, qs, qs, qf, qs, qs, qs, qs, qf, qs, qs, qs, qs, qf, qs, qs, qs, qs, qf, qs, qs, qs, qs, (qw 0), (qb 0), qs, (qw 0), (qb 0), qs, (qw 0), (qb 0), qs, (qw 0), (qw 0), (qb 0), (qw 0), (qb 0), (qb 0), (qb 0), qs, (.psl 0 [])]
noncomputable def t41_g0 : List Ent := [
  ([(.agg (patch [] b41_0_g0))], .val qt),
  ([(.agg (patch [(0, (qw 1))] b41_0_g0))], .val qt),
  ([(.agg (patch [(0, (qw 1)), (47, (.psl 1 [(qw 1), (qw 1), (qb 1), (qw 1), (qb 1), (qb 0), (qb 0), (.str (bs [1, 120]))]))] b41_0_g0))], .val qt),
  ([(.agg (patch [(0, (qw 1)), (47, (.psl 2 [(qw 1), (qw 1), (qb 1), (qw 1), (qb 1), (qb 0), (qb 0), (.str (bs [1, 120])), (qw 1), (qw 2), (qb 1), (qw 2), (qb 1), (qb 0), (qb 0), (.str (bs [2, 120]))]))] b41_0_g0))], .val qt),
  ([(.agg (patch [(0, (qw 1)), (47, (.psl 3 [(qw 1), (qw 1), (qb 1), (qw 1), (qb 1), (qb 0), (qb 0), (.str (bs [1, 120])), (qw 1), (qw 2), (qb 1), (qw 2), (qb 1), (qb 0), (qb 0), (.str (bs [2, 120])), (qw 1), (qw 3), (qb 1), (qw 3), (qb 1), (qb 0), (qb 0), (.str (bs [3, 120]))]))] b41_0_g0))], .val qt),
  ([(.agg (patch [(0, (qw 1)), (47, (.psl 4 [(qw 1), (qw 1), (qb 1), (qw 1), (qb 1), (qb 0), (qb 0), (.str (bs [1, 120])), (qw 1), (qw 2), (qb 1), (qw 2), (qb 1), (qb 0), (qb 0), (.str (bs [2, 120])), (qw 1), (qw 3), (qb 1), (qw 3), (qb 1), (qb 0), (qb 0), (.str (bs [3, 120])), (qw 1), (qw 4), (qb 1), (qw 4), (qb 1), (qb 0), (qb 0), (.str (bs [4, 120]))]))] b41_0_g0))], .val qt),
  ([(.agg (patch [(0, (qw 1)), (47, (.psl 5 [(qw 1), (qw 1), (qb 1), (qw 1), (qb 1), (qb 0), (qb 0), (.str (bs [1, 120])), (qw 1), (qw 2), (qb 1), (qw 2), (qb 1), (qb 0), (qb 0), (.str (bs [2, 120])), (qw 1), (qw 3), (qb 1), (qw 3), (qb 1), (qb 0), (qb 0), (.str (bs [3, 120])), (qw 1), (qw 4), (qb 1), (qw 4), (qb 1), (qb 0), (qb 0), (.str (bs [4, 120])), (qw 1), (qw 5), (qb 1), (qw 5), (qb 1), (qb 0), (qb 0), (.str (bs [5, 120]))]))] b41_0_g0))], .val qt),
  ([(.agg (patch [(0, (qw 1)), (47, (.psl 6 [(qw 1), (qw 1), (qb 1), (qw 1), (qb 1), (qb 0), (qb 0), (.str (bs [1, 120])), (qw 1), (qw 2), (qb 1), (qw 2), (qb 1), (qb 0), (qb 0), (.str (bs [2, 120])), (qw 1), (qw 3), (qb 1), (qw 3), (qb 1), (qb 0), (qb 0), (.str (bs [3, 120])), (qw 1), (qw 4), (qb 1), (qw 4), (qb 1), (qb 0), (qb 0), (.str (bs [4, 120])), (qw 1), (qw 5), (qb 1), (qw 5), (qb 1), (qb 0), (qb 0), (.str (bs [5, 120])), (qw 1), (qw 6), (qb 1), (qw 6), (qb 1), (qb 0), (qb 0), (.str (bs [6, 120]))]))] b41_0_g0))], .val qt),
  ([(.agg (patch [(0, (qw 1)), (0, qt), (0, (.str (bs [1, 120]))), (28, (qw 1)), (8, (qw 1)), (0, (qw 1)), (6, (.psl 6 [(qw 1), (qw 2), (qb 1), (qw 2), (qb 1), (qb 0), (qb 0), (.str (bs [2, 120])), (qw 1), (qw 3), (qb 1), (qw 3), (qb 1), (qb 0), (qb 0), (.str (bs [3, 120])), (qw 1), (qw 4), (qb 1), (qw 4), (qb 1), (qb 0), (qb 0), (.str (bs [4, 120])), (qw 1), (qw 5), (qb 1), (qw 5), (qb 1), (qb 0), (qb 0), (.str (bs [5, 120])), (qw 1), (qw 6), (qb 1), (qw 6), (qb 1), (qb 0), (qb 0), (.str (bs [6, 120])), (qw 1), (qw 7), (qb 1), (qw 7), (qb 1), (qb 0), (qb 0), (.str (bs [7, 120]))]))] b41_0_g0))], .val qt),
  ([(.agg (patch [(0, (qw 1)), (0, qt), (0, (.str (bs [2, 120]))), (28, (qw 2)), (8, (qw 1)), (0, (qw 2)), (6, (.psl 6 [(qw 1), (qw 3), (qb 1), (qw 3), (qb 1), (qb 0), (qb 0), (.str (bs [3, 120])), (qw 1), (qw 4), (qb 1), (qw 4), (qb 1), (qb 0), (qb 0), (.str (bs [4, 120])), (qw 1), (qw 5), (qb 1), (qw 5), (qb 1), (qb 0), (qb 0), (.str (bs [5, 120])), (qw 1), (qw 6), (qb 1), (qw 6), (qb 1), (qb 0), (qb 0), (.str (bs [6, 120])), (qw 1), (qw 7), (qb 1), (qw 7), (qb 1), (qb 0), (qb 0), (.str (bs [7, 120])), (qw 1), (qw 8), (qb 1), (qw 8), (qb 1), (qb 0), (qb 0), (.str (bs [8, 120]))]))] b41_0_g0))], .val qt),
  ([(.agg (patch [(0, (qw 1)), (0, qt), (0, (.str (bs [3, 120]))), (28, (qw 3)), (8, (qw 1)), (0, (qw 3)), (6, (.psl 6 [(qw 1), (qw 4), (qb 1), (qw 4), (qb 1), (qb 0), (qb 0), (.str (bs [4, 120])), (qw 1), (qw 5), (qb 1), (qw 5), (qb 1), (qb 0), (qb 0), (.str (bs [5, 120])), (qw 1), (qw 6), (qb 1), (qw 6), (qb 1), (qb 0), (qb 0), (.str (bs [6, 120])), (qw 1), (qw 7), (qb 1), (qw 7), (qb 1), (qb 0), (qb 0), (.str (bs [7, 120])), (qw 1), (qw 8), (qb 1), (qw 8), (qb 1), (qb 0), (qb 0), (.str (bs [8, 120])), (qw 1), (qw 9), (qb 1), (qw 9), (qb 1), (qb 0), (qb 0), (.str (bs [9, 120]))]))] b41_0_g0))], .val qt),
  ([(.agg (patch [(0, (qw 1)), (0, qt), (0, (.str (bs [4, 120]))), (28, (qw 4)), (8, (qw 1)), (0, (qw 4)), (6, (.psl 6 [(qw 1), (qw 5), (qb 1), (qw 5), (qb 1), (qb 0), (qb 0), (.str (bs [5, 120])), (qw 1), (qw 6), (qb 1), (qw 6), (qb 1), (qb 0), (qb 0), (.str (bs [6, 120])), (qw 1), (qw 7), (qb 1), (qw 7), (qb 1), (qb 0), (qb 0), (.str (bs [7, 120])), (qw 1), (qw 8), (qb 1), (qw 8), (qb 1), (qb 0), (qb 0), (.str (bs [8, 120])), (qw 1), (qw 9), (qb 1), (qw 9), (qb 1), (qb 0), (qb 0), (.str (bs [9, 120])), (qw 1), (qw 10), (qb 1), (qw 10), (qb 1), (qb 0), (qb 0), (.str (bs [10, 120]))]))] b41_0_g0))], .val qt)]
noncomputable def t46_g0 : List Ent := [
  ([(.psl 3 [(qi 4), (qi 3), (qi 2)]), (qi 0)], .val qf),
  ([(.psl 3 [(qi 4), (qi 3), (qi 2)]), (qi 1)], .val qf),
  ([(.psl 3 [(qi 4), (qi 3), (qi 2)]), (qi 2)], .val qt),
  ([(.psl 3 [(qi 4), (qi 3), (qi 2)]), (qi 3)], .val qt),
  ([(.psl 3 [(qi 4), (qi 3), (qi 2)]), (qi 4)], .val qt),
  ([(.psl 1 [(qi 4)]), (qi 4)], .val qt),
  ([(.psl 1 [(qi 4)]), (qi 3)], .val qf),
  ([(.psl 2 [(qi 0), (qi 4)]), (qi 4)], .val qt),
  ([(.psl 2 [(qi 0), (qi 4)]), (qi 3)], .val qf),
  ([(.psl 3 [(qi 0), (qi 1), (qi 4)]), (qi 4)], .val qt),
  ([(.psl 3 [(qi 0), (qi 1), (qi 4)]), (qi 3)], .val qf),
  ([(.psl 4 [(qi 0), (qi 1), (qi 2), (qi 4)]), (qi 4)], .val qt),
  ([(.psl 4 [(qi 0), (qi 1), (qi 2), (qi 4)]), (qi 3)], .val qf),
  ([(.psl 5 [(qi 0), (qi 1), (qi 2), (qi 3), (qi 4)]), (qi 4)], .val qt),
  ([(.psl 5 [(qi 0), (qi 1), (qi 2), (qi 3), (qi 4)]), (qi 3)], .val qt),
  ([(.psl 5 [(qi 0), (qi 1), (qi 2), (qi 3), (qi 4)]), (qi 2)], .val qt)]
noncomputable def t75_g0 : List Ent := [
  ([(.agg [(qb 2), (qw 1), (qb 5), (qb 0), (qb 0), qs])], .val qf),
  ([(.agg [(qb 1), (qw 1), (qb 1), (qb 0), (qb 0), (.str (bs [1, 120]))])], .val qt),
  ([(.agg [(qb 1), (qw 2), (qb 1), (qb 0), (qb 0), (.str (bs [2, 120]))])], .val qt),
  ([(.agg [(qb 1), (qw 3), (qb 1), (qb 0), (qb 0), (.str (bs [3, 120]))])], .val qt),
  ([(.agg [(qb 1), (qw 4), (qb 1), (qb 0), (qb 0), (.str (bs [4, 120]))])], .val qt),
  ([(.agg [(qb 1), (qw 5), (qb 1), (qb 0), (qb 0), (.str (bs [5, 120]))])], .val qt),
  ([(.agg [(qb 1), (qw 6), (qb 1), (qb 0), (qb 0), (.str (bs [6, 120]))])], .val qt),
  ([(.agg [(qb 1), (qw 7), (qb 1), (qb 0), (qb 0), (.str (bs [7, 120]))])], .val qt),
  ([(.agg [(qb 1), (qw 8), (qb 1), (qb 0), (qb 0), (.str (bs [8, 120]))])], .val qt),
  ([(.agg [(qb 1), (qw 9), (qb 1), (qb 0), (qb 0), (.str (bs [9, 120]))])], .val qt),
  ([(.agg [(qb 1), (qw 10), (qb 1), (qb 0), (qb 0), (.str (bs [10, 120]))])], .val qt),
  ([(.agg [(qb 1), (qw 11), (qb 1), (qb 0), (qb 0), (.str (bs [11, 120]))])], .val qt)]
def b76_0_g0 : List V := [qf, qs, qs, qs, qs, qf, qs, qs, qs, qs, qf, qs, qs, qs, qs, qf, qs, qs, qs, qs, qf, qs, qs, qs, qs, qf, qs, qs, qs, qs, (qw 0), (qb 0), qs, (qw 0), (qb 0), qs, (qw 0), (qb 0), qs]
noncomputable def t76_g0 : List Ent := [
  ([(.agg (patch [] b76_0_g0)), (.agg [(qb 1), (qw 1), (qb 1), (qb 0), (qb 0), (.str (bs [1, 120]))])], .val (.tup [(.agg [(qb 0), qs]), qf])),
  ([(.agg (patch [(0, qt), (0, (.str (bs [1, 120]))), (28, (qw 1))] b76_0_g0)), (.agg [(qb 1), (qw 1), (qb 1), (qb 0), (qb 0), (.str (bs [1, 120]))])], .val (.tup [(.agg [(qb 0), qs]), qt])),
  ([(.agg (patch [(0, qt), (0, (.str (bs [1, 120]))), (28, (qw 1))] b76_0_g0)), (.agg [(qb 1), (qw 2), (qb 1), (qb 0), (qb 0), (.str (bs [2, 120]))])], .val (.tup [(.agg [(qb 0), qs]), qf])),
  ([(.agg (patch [(0, qt), (0, (.str (bs [2, 120]))), (28, (qw 2))] b76_0_g0)), (.agg [(qb 1), (qw 2), (qb 1), (qb 0), (qb 0), (.str (bs [2, 120]))])], .val (.tup [(.agg [(qb 0), qs]), qt])),
  ([(.agg (patch [(0, qt), (0, (.str (bs [2, 120]))), (28, (qw 2))] b76_0_g0)), (.agg [(qb 1), (qw 3), (qb 1), (qb 0), (qb 0), (.str (bs [3, 120]))])], .val (.tup [(.agg [(qb 0), qs]), qf])),
  ([(.agg (patch [(0, qt), (0, (.str (bs [3, 120]))), (28, (qw 3))] b76_0_g0)), (.agg [(qb 1), (qw 3), (qb 1), (qb 0), (qb 0), (.str (bs [3, 120]))])], .val (.tup [(.agg [(qb 0), qs]), qt])),
  ([(.agg (patch [(0, qt), (0, (.str (bs [3, 120]))), (28, (qw 3))] b76_0_g0)), (.agg [(qb 1), (qw 4), (qb 1), (qb 0), (qb 0), (.str (bs [4, 120]))])], .val (.tup [(.agg [(qb 0), qs]), qf])),
  ([(.agg (patch [(0, qt), (0, (.str (bs [4, 120]))), (28, (qw 4))] b76_0_g0)), (.agg [(qb 1), (qw 4), (qb 1), (qb 0), (qb 0), (.str (bs [4, 120]))])], .val (.tup [(.agg [(qb 0), qs]), qt])),
  ([(.agg (patch [(0, qt), (0, (.str (bs [4, 120]))), (28, (qw 4))] b76_0_g0)), (.agg [(qb 1), (qw 5), (qb 1), (qb 0), (qb 0), (.str (bs [5, 120]))])], .val (.tup [(.agg [(qb 0), qs]), qf])),
  ([(.agg (patch [(0, qt), (0, (.str (bs [5, 120]))), (28, (qw 5))] b76_0_g0)), (.agg [(qb 1), (qw 5), (qb 1), (qb 0), (qb 0), (.str (bs [5, 120]))])], .val (.tup [(.agg [(qb 0), qs]), qt])),
  ([(.agg (patch [(0, qt), (0, (.str (bs [5, 120]))), (28, (qw 5))] b76_0_g0)), (.agg [(qb 1), (qw 6), (qb 1), (qb 0), (qb 0), (.str (bs [6, 120]))])], .val (.tup [(.agg [(qb 0), qs]), qf])),
  ([(.agg (patch [(0, qt), (0, (.str (bs [6, 120]))), (28, (qw 6))] b76_0_g0)), (.agg [(qb 1), (qw 6), (qb 1), (qb 0), (qb 0), (.str (bs [6, 120]))])], .val (.tup [(.agg [(qb 0), qs]), qt])),
  ([(.agg (patch [(0, qt), (0, (.str (bs [6, 120]))), (28, (qw 6))] b76_0_g0)), (.agg [(qb 1), (qw 7), (qb 1), (qb 0), (qb 0), (.str (bs [7, 120]))])], .val (.tup [(.agg [(qb 0), qs]), qf])),
  ([(.agg (patch [(0, qt), (0, (.str (bs [7, 120]))), (28, (qw 7))] b76_0_g0)), (.agg [(qb 1), (qw 7), (qb 1), (qb 0), (qb 0), (.str (bs [7, 120]))])], .val (.tup [(.agg [(qb 0), qs]), qt])),
  ([(.agg (patch [(0, qt), (0, (.str (bs [7, 120]))), (28, (qw 7))] b76_0_g0)), (.agg [(qb 1), (qw 8), (qb 1), (qb 0), (qb 0), (.str (bs [8, 120]))])], .val (.tup [(.agg [(qb 0), qs]), qf])),
  ([(.agg (patch [(0, qt), (0, (.str (bs [8, 120]))), (28, (qw 8))] b76_0_g0)), (.agg [(qb 1), (qw 8), (qb 1), (qb 0), (qb 0), (.str (bs [8, 120]))])], .val (.tup [(.agg [(qb 0), qs]), qt])),
  ([(.agg (patch [(0, qt), (0, (.str (bs [8, 120]))), (28, (qw 8))] b76_0_g0)), (.agg [(qb 1), (qw 9), (qb 1), (qb 0), (qb 0), (.str (bs [9, 120]))])], .val (.tup [(.agg [(qb 0), qs]), qf])),
  ([(.agg (patch [(0, qt), (0, (.str (bs [9, 120]))), (28, (qw 9))] b76_0_g0)), (.agg [(qb 1), (qw 9), (qb 1), (qb 0), (qb 0), (.str (bs [9, 120]))])], .val (.tup [(.agg [(qb 0), qs]), qt])),
  ([(.agg (patch [(0, qt), (0, (.str (bs [9, 120]))), (28, (qw 9))] b76_0_g0)), (.agg [(qb 1), (qw 10), (qb 1), (qb 0), (qb 0), (.str (bs [10, 120]))])], .val (.tup [(.agg [(qb 0), qs]), qf])),
  ([(.agg (patch [(0, qt), (0, (.str (bs [10, 120]))), (28, (qw 10))] b76_0_g0)), (.agg [(qb 1), (qw 10), (qb 1), (qb 0), (qb 0), (.str (bs [10, 120]))])], .val (.tup [(.agg [(qb 0), qs]), qt])),
  ([(.agg (patch [(0, qt), (0, (.str (bs [10, 120]))), (28, (qw 10))] b76_0_g0)), (.agg [(qb 1), (qw 11), (qb 1), (qb 0), (qb 0), (.str (bs [11, 120]))])], .val (.tup [(.agg [(qb 0), qs]), qf])),
  ([(.agg (patch [(0, qt), (0, (.str (bs [11, 120]))), (28, (qw 11))] b76_0_g0)), (.agg [(qb 1), (qw 11), (qb 1), (qb 0), (qb 0), (.str (bs [11, 120]))])], .val (.tup [(.agg [(qb 0), qs]), qt]))]
noncomputable def t82_g0 : List Ent := [
  ([(.agg [(qw 0), (qw 0), (qb 0), (qw 0), (qb 0), (qb 0), (qb 0), qs]), (.agg [(qw 1), (qw 1), (qb 1), (qw 1), (qb 1), (qb 0), (qb 0), (.str (bs [1, 120]))])], .val qt),
  ([(.agg [(qw 1), (qw 1), (qb 1), (qw 1), (qb 1), (qb 0), (qb 0), (.str (bs [1, 120]))]), (.agg [(qw 1), (qw 2), (qb 1), (qw 2), (qb 1), (qb 0), (qb 0), (.str (bs [2, 120]))])], .val qt),
  ([(.agg [(qw 1), (qw 2), (qb 1), (qw 2), (qb 1), (qb 0), (qb 0), (.str (bs [2, 120]))]), (.agg [(qw 1), (qw 3), (qb 1), (qw 3), (qb 1), (qb 0), (qb 0), (.str (bs [3, 120]))])], .val qt),
  ([(.agg [(qw 1), (qw 3), (qb 1), (qw 3), (qb 1), (qb 0), (qb 0), (.str (bs [3, 120]))]), (.agg [(qw 1), (qw 4), (qb 1), (qw 4), (qb 1), (qb 0), (qb 0), (.str (bs [4, 120]))])], .val qt),
  ([(.agg [(qw 1), (qw 4), (qb 1), (qw 4), (qb 1), (qb 0), (qb 0), (.str (bs [4, 120]))]), (.agg [(qw 1), (qw 5), (qb 1), (qw 5), (qb 1), (qb 0), (qb 0), (.str (bs [5, 120]))])], .val qt),
  ([(.agg [(qw 1), (qw 5), (qb 1), (qw 5), (qb 1), (qb 0), (qb 0), (.str (bs [5, 120]))]), (.agg [(qw 1), (qw 6), (qb 1), (qw 6), (qb 1), (qb 0), (qb 0), (.str (bs [6, 120]))])], .val qt),
  ([(.agg [(qw 1), (qw 6), (qb 1), (qw 6), (qb 1), (qb 0), (qb 0), (.str (bs [6, 120]))]), (.agg [(qw 1), (qw 7), (qb 1), (qw 7), (qb 1), (qb 0), (qb 0), (.str (bs [7, 120]))])], .val qt),
  ([(.agg [(qw 1), (qw 7), (qb 1), (qw 7), (qb 1), (qb 0), (qb 0), (.str (bs [7, 120]))]), (.agg [(qw 1), (qw 8), (qb 1), (qw 8), (qb 1), (qb 0), (qb 0), (.str (bs [8, 120]))])], .val qt),
  ([(.agg [(qw 1), (qw 8), (qb 1), (qw 8), (qb 1), (qb 0), (qb 0), (.str (bs [8, 120]))]), (.agg [(qw 1), (qw 9), (qb 1), (qw 9), (qb 1), (qb 0), (qb 0), (.str (bs [9, 120]))])], .val qt),
  ([(.agg [(qw 1), (qw 9), (qb 1), (qw 9), (qb 1), (qb 0), (qb 0), (.str (bs [9, 120]))]), (.agg [(qw 1), (qw 10), (qb 1), (qw 10), (qb 1), (qb 0), (qb 0), (.str (bs [10, 120]))])], .val qt),
  ([(.agg [(qw 1), (qw 10), (qb 1), (qw 10), (qb 1), (qb 0), (qb 0), (.str (bs [10, 120]))]), (.agg [(qw 1), (qw 11), (qb 1), (qw 11), (qb 1), (qb 0), (qb 0), (.str (bs [11, 120]))])], .val qt)]
def b83_0_g0 : List V := [(qw 1), qt, (qi 8), (qb 0), qt, (qi 8), (qb 1), qt, (qi 8), (qb 2), qt, (qi 8), (qb 3), qt, (qi 8), (qb 0)]
noncomputable def t83_g0 : List Ent := [
  ([(.agg (patch [] b83_0_g0)), (qb 0)], .row 3 1 none [(qi 4), (qi 3), (qi 2)]),
  ([(.agg (patch [] b83_0_g0)), (qb 1)], .row 3 1 none [(qi 2), (qi 3), (qi 0)]),
  ([(.agg (patch [] b83_0_g0)), (qb 2)], .row 3 1 none [(qi 4), (qi 2), (qi 3)]),
  ([(.agg (patch [] b83_0_g0)), (qb 3)], .row 3 1 none [(qi 3), (qi 2), (qi 4)])]
def b89_0_g0 : List V := [(qw 1), qt, (qi 8), (qb 0), qt, (qi 8), (qb 1), qt, (qi 8), (qb 2), qt, (qi 8), (qb 3), qt, (qi 8), (qb 0)]
noncomputable def t89_g0 : List Ent := [
  ([(.agg (patch [] b89_0_g0))], .row 5 1 none [(qi 0), (qi 1), (qi 2), (qi 3), (qi 4)])]
def b154_0_g0 : List V := [(qw 1), qf, qs, qs, qs, qs, qf, qs, qs, qs, qs, qf, qs, qs, qs, qs, qf, qs, qs, qs, qs, qf, qs, qs, qs, qs, qf, qs, qs, qs, qs, (qw 0), (qb 0), qs, (qw 0), (qb 0), qs, (qw 0), (qb 0), qs, (qw 0), (qw 0), (qb 0), (qw 0), (qb 0), (qb 0), (qb 0), qs, (.psl 0 [])]
noncomputable def t154_g0 : List Ent := [
  ([(.agg (patch [] b154_0_g0))], .val (.agg [qf, qs, qs, qs, qs, qf, qs, qs, qs, qs, qf, qs, qs, qs, qs, qf, qs, qs, qs, qs, qf, qs, qs, qs, qs, qf, qs, qs, qs, qs, (qw 0), (qb 0), qs, (qw 0), (qb 0), qs, (qw 0), (qb 0), qs])),
  ([(.agg (patch [(48, (.psl 1 [(qw 1), (qw 1), (qb 1), (qw 1), (qb 1), (qb 0), (qb 0), (.str (bs [1, 120]))]))] b154_0_g0))], .val (.agg [qt, (.str (bs [1, 120])), qs, qs, qs, qf, qs, qs, qs, qs, qf, qs, qs, qs, qs, qf, qs, qs, qs, qs, qf, qs, qs, qs, qs, qf, qs, qs, qs, qs, (qw 1), (qb 0), qs, (qw 0), (qb 0), qs, (qw 0), (qb 0), qs])),
  ([(.agg (patch [(48, (.psl 2 [(qw 1), (qw 1), (qb 1), (qw 1), (qb 1), (qb 0), (qb 0), (.str (bs [1, 120])), (qw 1), (qw 2), (qb 1), (qw 2), (qb 1), (qb 0), (qb 0), (.str (bs [2, 120]))]))] b154_0_g0))], .val (.agg [qt, (.str (bs [2, 120])), qs, qs, qs, qf, qs, qs, qs, qs, qf, qs, qs, qs, qs, qf, qs, qs, qs, qs, qf, qs, qs, qs, qs, qf, qs, qs, qs, qs, (qw 2), (qb 0), qs, (qw 0), (qb 0), qs, (qw 0), (qb 0), qs])),
  ([(.agg (patch [(48, (.psl 3 [(qw 1), (qw 1), (qb 1), (qw 1), (qb 1), (qb 0), (qb 0), (.str (bs [1, 120])), (qw 1), (qw 2), (qb 1), (qw 2), (qb 1), (qb 0), (qb 0), (.str (bs [2, 120])), (qw 1), (qw 3), (qb 1), (qw 3), (qb 1), (qb 0), (qb 0), (.str (bs [3, 120]))]))] b154_0_g0))], .val (.agg [qt, (.str (bs [3, 120])), qs, qs, qs, qf, qs, qs, qs, qs, qf, qs, qs, qs, qs, qf, qs, qs, qs, qs, qf, qs, qs, qs, qs, qf, qs, qs, qs, qs, (qw 3), (qb 0), qs, (qw 0), (qb 0), qs, (qw 0), (qb 0), qs])),
  ([(.agg (patch [(48, (.psl 4 [(qw 1), (qw 1), (qb 1), (qw 1), (qb 1), (qb 0), (qb 0), (.str (bs [1, 120])), (qw 1), (qw 2), (qb 1), (qw 2), (qb 1), (qb 0), (qb 0), (.str (bs [2, 120])), (qw 1), (qw 3), (qb 1), (qw 3), (qb 1), (qb 0), (qb 0), (.str (bs [3, 120])), (qw 1), (qw 4), (qb 1), (qw 4), (qb 1), (qb 0), (qb 0), (.str (bs [4, 120]))]))] b154_0_g0))], .val (.agg [qt, (.str (bs [4, 120])), qs, qs, qs, qf, qs, qs, qs, qs, qf, qs, qs, qs, qs, qf, qs, qs, qs, qs, qf, qs, qs, qs, qs, qf, qs, qs, qs, qs, (qw 4), (qb 0), qs, (qw 0), (qb 0), qs, (qw 0), (qb 0), qs])),
  ([(.agg (patch [(48, (.psl 5 [(qw 1), (qw 1), (qb 1), (qw 1), (qb 1), (qb 0), (qb 0), (.str (bs [1, 120])), (qw 1), (qw 2), (qb 1), (qw 2), (qb 1), (qb 0), (qb 0), (.str (bs [2, 120])), (qw 1), (qw 3), (qb 1), (qw 3), (qb 1), (qb 0), (qb 0), (.str (bs [3, 120])), (qw 1), (qw 4), (qb 1), (qw 4), (qb 1), (qb 0), (qb 0), (.str (bs [4, 120])), (qw 1), (qw 5), (qb 1), (qw 5), (qb 1), (qb 0), (qb 0), (.str (bs [5, 120]))]))] b154_0_g0))], .val (.agg [qt, (.str (bs [5, 120])), qs, qs, qs, qf, qs, qs, qs, qs, qf, qs, qs, qs, qs, qf, qs, qs, qs, qs, qf, qs, qs, qs, qs, qf, qs, qs, qs, qs, (qw 5), (qb 0), qs, (qw 0), (qb 0), qs, (qw 0), (qb 0), qs])),
  ([(.agg (patch [(48, (.psl 6 [(qw 1), (qw 1), (qb 1), (qw 1), (qb 1), (qb 0), (qb 0), (.str (bs [1, 120])), (qw 1), (qw 2), (qb 1), (qw 2), (qb 1), (qb 0), (qb 0), (.str (bs [2, 120])), (qw 1), (qw 3), (qb 1), (qw 3), (qb 1), (qb 0), (qb 0), (.str (bs [3, 120])), (qw 1), (qw 4), (qb 1), (qw 4), (qb 1), (qb 0), (qb 0), (.str (bs [4, 120])), (qw 1), (qw 5), (qb 1), (qw 5), (qb 1), (qb 0), (qb 0), (.str (bs [5, 120])), (qw 1), (qw 6), (qb 1), (qw 6), (qb 1), (qb 0), (qb 0), (.str (bs [6, 120]))]))] b154_0_g0))], .val (.agg [qt, (.str (bs [6, 120])), qs, qs, qs, qf, qs, qs, qs, qs, qf, qs, qs, qs, qs, qf, qs, qs, qs, qs, qf, qs, qs, qs, qs, qf, qs, qs, qs, qs, (qw 6), (qb 0), qs, (qw 0), (qb 0), qs, (qw 0), (qb 0), qs])),
  ([(.agg (patch [(1, qt), (0, (.str (bs [1, 120]))), (28, (qw 1)), (8, (qw 1)), (0, (qw 1)), (6, (.psl 6 [(qw 1), (qw 2), (qb 1), (qw 2), (qb 1), (qb 0), (qb 0), (.str (bs [2, 120])), (qw 1), (qw 3), (qb 1), (qw 3), (qb 1), (qb 0), (qb 0), (.str (bs [3, 120])), (qw 1), (qw 4), (qb 1), (qw 4), (qb 1), (qb 0), (qb 0), (.str (bs [4, 120])), (qw 1), (qw 5), (qb 1), (qw 5), (qb 1), (qb 0), (qb 0), (.str (bs [5, 120])), (qw 1), (qw 6), (qb 1), (qw 6), (qb 1), (qb 0), (qb 0), (.str (bs [6, 120])), (qw 1), (qw 7), (qb 1), (qw 7), (qb 1), (qb 0), (qb 0), (.str (bs [7, 120]))]))] b154_0_g0))], .val (.agg [qt, (.str (bs [7, 120])), qs, qs, qs, qf, qs, qs, qs, qs, qf, qs, qs, qs, qs, qf, qs, qs, qs, qs, qf, qs, qs, qs, qs, qf, qs, qs, qs, qs, (qw 7), (qb 0), qs, (qw 0), (qb 0), qs, (qw 0), (qb 0), qs])),
  ([(.agg (patch [(1, qt), (0, (.str (bs [2, 120]))), (28, (qw 2)), (8, (qw 1)), (0, (qw 2)), (6, (.psl 6 [(qw 1), (qw 3), (qb 1), (qw 3), (qb 1), (qb 0), (qb 0), (.str (bs [3, 120])), (qw 1), (qw 4), (qb 1), (qw 4), (qb 1), (qb 0), (qb 0), (.str (bs [4, 120])), (qw 1), (qw 5), (qb 1), (qw 5), (qb 1), (qb 0), (qb 0), (.str (bs [5, 120])), (qw 1), (qw 6), (qb 1), (qw 6), (qb 1), (qb 0), (qb 0), (.str (bs [6, 120])), (qw 1), (qw 7), (qb 1), (qw 7), (qb 1), (qb 0), (qb 0), (.str (bs [7, 120])), (qw 1), (qw 8), (qb 1), (qw 8), (qb 1), (qb 0), (qb 0), (.str (bs [8, 120]))]))] b154_0_g0))], .val (.agg [qt, (.str (bs [8, 120])), qs, qs, qs, qf, qs, qs, qs, qs, qf, qs, qs, qs, qs, qf, qs, qs, qs, qs, qf, qs, qs, qs, qs, qf, qs, qs, qs, qs, (qw 8), (qb 0), qs, (qw 0), (qb 0), qs, (qw 0), (qb 0), qs])),
  ([(.agg (patch [(1, qt), (0, (.str (bs [3, 120]))), (28, (qw 3)), (8, (qw 1)), (0, (qw 3)), (6, (.psl 6 [(qw 1), (qw 4), (qb 1), (qw 4), (qb 1), (qb 0), (qb 0), (.str (bs [4, 120])), (qw 1), (qw 5), (qb 1), (qw 5), (qb 1), (qb 0), (qb 0), (.str (bs [5, 120])), (qw 1), (qw 6), (qb 1), (qw 6), (qb 1), (qb 0), (qb 0), (.str (bs [6, 120])), (qw 1), (qw 7), (qb 1), (qw 7), (qb 1), (qb 0), (qb 0), (.str (bs [7, 120])), (qw 1), (qw 8), (qb 1), (qw 8), (qb 1), (qb 0), (qb 0), (.str (bs [8, 120])), (qw 1), (qw 9), (qb 1), (qw 9), (qb 1), (qb 0), (qb 0), (.str (bs [9, 120]))]))] b154_0_g0))], .val (.agg [qt, (.str (bs [9, 120])), qs, qs, qs, qf, qs, qs, qs, qs, qf, qs, qs, qs, qs, qf, qs, qs, qs, qs, qf, qs, qs, qs, qs, qf, qs, qs, qs, qs, (qw 9), (qb 0), qs, (qw 0), (qb 0), qs, (qw 0), (qb 0), qs])),
  ([(.agg (patch [(1, qt), (0, (.str (bs [4, 120]))), (28, (qw 4)), (8, (qw 1)), (0, (qw 4)), (6, (.psl 6 [(qw 1), (qw 5), (qb 1), (qw 5), (qb 1), (qb 0), (qb 0), (.str (bs [5, 120])), (qw 1), (qw 6), (qb 1), (qw 6), (qb 1), (qb 0), (qb 0), (.str (bs [6, 120])), (qw 1), (qw 7), (qb 1), (qw 7), (qb 1), (qb 0), (qb 0), (.str (bs [7, 120])), (qw 1), (qw 8), (qb 1), (qw 8), (qb 1), (qb 0), (qb 0), (.str (bs [8, 120])), (qw 1), (qw 9), (qb 1), (qw 9), (qb 1), (qb 0), (qb 0), (.str (bs [9, 120])), (qw 1), (qw 10), (qb 1), (qw 10), (qb 1), (qb 0), (qb 0), (.str (bs [10, 120]))]))] b154_0_g0))], .val (.agg [qt, (.str (bs [10, 120])), qs, qs, qs, qf, qs, qs, qs, qs, qf, qs, qs, qs, qs, qf, qs, qs, qs, qs, qf, qs, qs, qs, qs, qf, qs, qs, qs, qs, (qw 10), (qb 0), qs, (qw 0), (qb 0), qs, (qw 0), (qb 0), qs])),
  ([(.agg (patch [(1, qt), (0, (.str (bs [5, 120]))), (28, (qw 5)), (8, (qw 1)), (0, (qw 5)), (6, (.psl 6 [(qw 1), (qw 6), (qb 1), (qw 6), (qb 1), (qb 0), (qb 0), (.str (bs [6, 120])), (qw 1), (qw 7), (qb 1), (qw 7), (qb 1), (qb 0), (qb 0), (.str (bs [7, 120])), (qw 1), (qw 8), (qb 1), (qw 8), (qb 1), (qb 0), (qb 0), (.str (bs [8, 120])), (qw 1), (qw 9), (qb 1), (qw 9), (qb 1), (qb 0), (qb 0), (.str (bs [9, 120])), (qw 1), (qw 10), (qb 1), (qw 10), (qb 1), (qb 0), (qb 0), (.str (bs [10, 120])), (qw 1), (qw 11), (qb 1), (qw 11), (qb 1), (qb 0), (qb 0), (.str (bs [11, 120]))]))] b154_0_g0))], .val (.agg [qt, (.str (bs [11, 120])), qs, qs, qs, qf, qs, qs, qs, qs, qf, qs, qs, qs, qs, qf, qs, qs, qs, qs, qf, qs, qs, qs, qs, qf, qs, qs, qs, qs, (qw 11), (qb 0), qs, (qw 0), (qb 0), qs, (qw 0), (qb 0), qs]))]

theorem t13_g0_all : (t13_g0.all fun p => entB ctx1 13 p) = true := by kernel_rfl
theorem t13_g0_ok : ∀ p ∈ t13_g0, EntOK (law1 13) p := fun p hp => ent_of_run (List.all_eq_true.1 t13_g0_all p hp)
theorem t14_g0_all : (t14_g0.all fun p => entB ctx1 14 p) = true := by kernel_rfl
theorem t14_g0_ok : ∀ p ∈ t14_g0, EntOK (law1 14) p := fun p hp => ent_of_run (List.all_eq_true.1 t14_g0_all p hp)
theorem t21_g0_all : (t21_g0.all fun p => entB ctx1 21 p) = true := by kernel_rfl
theorem t21_g0_ok : ∀ p ∈ t21_g0, EntOK (law1 21) p := fun p hp => ent_of_run (List.all_eq_true.1 t21_g0_all p hp)
theorem t30_g0_all : (t30_g0.all fun p => entB ctx1 30 p) = true := by kernel_rfl
theorem t30_g0_ok : ∀ p ∈ t30_g0, EntOK (law1 30) p := fun p hp => ent_of_run (List.all_eq_true.1 t30_g0_all p hp)
theorem t39_g0_all : (t39_g0.all fun p => entB ctx1 39 p) = true := by kernel_rfl
theorem t39_g0_ok : ∀ p ∈ t39_g0, EntOK (law1 39) p := fun p hp => ent_of_run (List.all_eq_true.1 t39_g0_all p hp)
theorem t41_g0_all : (t41_g0.all fun p => entB ctx1 41 p) = true := by kernel_rfl
theorem t41_g0_ok : ∀ p ∈ t41_g0, EntOK (law1 41) p := fun p hp => ent_of_run (List.all_eq_true.1 t41_g0_all p hp)
theorem t46_g0_all : (t46_g0.all fun p => entB ctx1 46 p) = true := by kernel_rfl
theorem t46_g0_ok : ∀ p ∈ t46_g0, EntOK (law1 46) p := fun p hp => ent_of_run (List.all_eq_true.1 t46_g0_all p hp)
theorem t75_g0_all : (t75_g0.all fun p => entB ctx1 75 p) = true := by kernel_rfl
theorem t75_g0_ok : ∀ p ∈ t75_g0, EntOK (law1 75) p := fun p hp => ent_of_run (List.all_eq_true.1 t75_g0_all p hp)
theorem t76_g0_all : (t76_g0.all fun p => entB ctx1 76 p) = true := by kernel_rfl
theorem t76_g0_ok : ∀ p ∈ t76_g0, EntOK (law1 76) p := fun p hp => ent_of_run (List.all_eq_true.1 t76_g0_all p hp)
theorem t82_g0_all : (t82_g0.all fun p => entB ctx1 82 p) = true := by kernel_rfl
theorem t82_g0_ok : ∀ p ∈ t82_g0, EntOK (law1 82) p := fun p hp => ent_of_run (List.all_eq_true.1 t82_g0_all p hp)
theorem t83_g0_all : (t83_g0.all fun p => entB ctx1 83 p) = true := by kernel_rfl
theorem t83_g0_ok : ∀ p ∈ t83_g0, EntOK (law1 83) p := fun p hp => ent_of_run (List.all_eq_true.1 t83_g0_all p hp)
theorem t89_g0_all : (t89_g0.all fun p => entB ctx1 89 p) = true := by kernel_rfl
theorem t89_g0_ok : ∀ p ∈ t89_g0, EntOK (law1 89) p := fun p hp => ent_of_run (List.all_eq_true.1 t89_g0_all p hp)
theorem t154_g0_all : (t154_g0.all fun p => entB ctx1 154 p) = true := by kernel_rfl
theorem t154_g0_ok : ∀ p ∈ t154_g0, EntOK (law1 154) p := fun p hp => ent_of_run (List.all_eq_true.1 t154_g0_all p hp)
noncomputable def G_g0 : HeapS := tabG 13 12 (tabOf 12 t13_g0) (tabG 14 12 (tabOf 12 t14_g0) (tabG 21 12 (tabOf 12 t21_g0) (tabG 30 12 (tabOf 12 t30_g0) (tabG 39 12 (tabOf 12 t39_g0) (tabG 41 12 (tabOf 12 t41_g0) (tabG 46 12 (tabOf 12 t46_g0) (tabG 75 12 (tabOf 12 t75_g0) (tabG 76 12 (tabOf 12 t76_g0) (tabG 82 12 (tabOf 12 t82_g0) (tabG 83 12 (tabOf 12 t83_g0) (tabG 89 12 (tabOf 12 t89_g0) (tabG 154 12 (tabOf 12 t154_g0) (appSeqG 169 129)))))))))))))
theorem G_g0_ok : ∀ f, CallOK Tryz.prog f (heapE G_g0 f) := tabG_ok (law1_ok 13) t13_g0_ok (tabG_ok (law1_ok 14) t14_g0_ok (tabG_ok (law1_ok 21) t21_g0_ok (tabG_ok (law1_ok 30) t30_g0_ok (tabG_ok (law1_ok 39) t39_g0_ok (tabG_ok (law1_ok 41) t41_g0_ok (tabG_ok (law1_ok 46) t46_g0_ok (tabG_ok (law1_ok 75) t75_g0_ok (tabG_ok (law1_ok 76) t76_g0_ok (tabG_ok (law1_ok 82) t82_g0_ok (tabG_ok (law1_ok 83) t83_g0_ok (tabG_ok (law1_ok 89) t89_g0_ok (tabG_ok (law1_ok 154) t154_g0_ok (appSeq_ok)))))))))))))
theorem G_g0_begun (args : List V) (g : Nat → Option Box) (m : Nat) : G_g0 7 args g m = none := rfl
noncomputable def ctx_g0 : CtxK := ctxH litF T2 G_g0 3000 40
end Go.PE
