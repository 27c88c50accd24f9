import Derived.Test.YtnkpakakgfkpbaaGreatK3
set_option linter.unusedVariables false
set_option linter.unusedSimpArgs false
section
namespace Go.Proofs.YtnkpakakgfkpbaaGreat.V
open Go.Vi
def pl3 : Nat → Plan := lookD .done [(26, (lins [0, 2, 4, 6, 8] (.alt 5 (lins [12, 14, 16, 19, 21, 22] .done) (.alt 9 (lins [11, 12, 14, 16, 21, 22] .done) .done)))), (27, (lins [0, 2, 4, 6, 8] (.alt 5 (lins [12, 14, 16, 19, 21, 22] .done) (.alt 9 (lins [11, 12, 14, 16, 21, 22] .done) .done)))), (30, (lins [0, 2, 5, 7] .done))]
def pl5 : Nat → Plan := lookD .done [(3, (lins [0, 2, 4, 6, 8, 10, 14, 18] (.alt 6 (.alt 8 (.alt 10 (lins [22] (.alt 12 (.alt 13 (lins [28] (.alt 15 (lins [32, 34, 36, 39, 41, 42] .done) (.alt 19 (lins [31, 32, 34, 36, 41, 42] .done) .done))) (.alt 19 (lins [27, 28, 31, 32, 34, 36, 41, 42] .done) .done)) (.alt 19 (lins [25, 27, 28, 31, 32, 34, 36, 41, 42] .done) .done))) (.alt 19 (lins [21, 22, 25, 27, 28, 31, 32, 34, 36, 41, 42] .done) .done)) (.alt 19 (lins [17, 21, 22, 25, 27, 28, 31, 32, 34, 36, 41, 42] .done) .done)) (.alt 19 (lins [13, 17, 21, 22, 25, 27, 28, 31, 32, 34, 36, 41, 42] .done) .done)))), (12, (lins [2, 4, 8, 1, 7, 11, 13, 15, 16] .done)), (16, (lins [0, 2, 4, 6, 8, 10, 14, 16, 18, 20, 13, 23, 25, 26] .done))]
def pl6 : Nat → Plan := lookD .done [(12, (lins [0, 2, 4, 6, 8, 10, 12, 14, 16, 19, 20, 22, 24, 26, 28, 30, 32, 34, 36, 38, 40, 42, 44, 46, 49, 50, 52] .done))]
def pl7 : Nat → Plan := lookD .done [(7, (lins [0, 2, 4, 8, 14, 7, 11, 12] .done)), (10, (lins [0, 4, 3, 7, 8, 10, 12, 16, 15, 19, 21, 22, 24, 26, 28, 30, 34, 36, 33, 39, 40, 42, 44, 46, 48, 52, 54, 51, 57, 58, 60] .done)), (12, (lins [0, 2, 10, 5, 7, 8] .done)), (20, (lins [0, 2, 4, 8, 14, 7, 11, 12] .done)), (28, (lins [0, 2, 6, 8, 14, 5, 11, 12] .done))]
def pl9 : Nat → Plan := lookD .done [(4, (lins [0, 2, 4, 6, 14, 16, 18, 9, 11, 13, 20, 22] .done)), (11, (lins [0, 2, 4, 6, 8, 10, 12, 14, 16] (.alt 9 (.alt 10 (lins [22, 24, 26, 29, 31, 32] .done) (.alt 14 (lins [21, 22, 24, 26, 31, 32] .done) .done)) (.alt 14 (lins [19, 21, 22, 24, 26, 31, 32] .done) .done)))), (28, (lins [0, 2, 4, 6, 8] (.alt 5 (lins [12, 14, 16, 19, 21, 22] .done) (.alt 9 (lins [11, 12, 14, 16, 21, 22] .done) .done)))), (41, (lins [0, 2, 4, 6, 8, 10, 12, 14, 16, 18, 20, 22] .done))]
def pl10 : Nat → Plan := lookD .done [(12, (lins [0, 2] (.alt 2 (lins [7, 9, 11] .done) (.alt 3 (lins [5, 9, 11] .done) .done)))), (15, (lins [0, 2, 4, 6, 8, 10, 12, 15, 16, 18, 20, 22, 24, 26, 28, 30, 32, 34, 36, 38, 40, 42, 44, 46] .done))]
def pl11 : Nat → Plan := lookD .done [(18, (lins [0, 2, 4, 8, 10, 7, 13, 14] .done))]
def pl12 : Nat → Plan := lookD .done [(7, (lins [0, 2, 4, 8, 14, 7, 11, 12] .done)), (10, (lins [0, 4, 3, 7, 8, 10, 12, 14, 18, 20, 17, 23, 24, 26, 28, 30, 32, 36, 38, 35, 41, 42, 44, 46, 48, 52, 51, 55, 57, 58, 60] .done)), (12, (lins [0, 2, 4, 8, 14, 7, 11, 12] .done)), (17, (lins [0, 2, 4, 6, 8, 10, 13, 14, 16, 18, 20, 24, 23, 27, 28, 30] .done)), (24, (lins [0, 2, 10, 5, 7, 8] .done)), (38, (lins [0, 2, 4, 6, 8, 12] (.alt 5 (.alt 7 (lins [16, 18, 20, 23, 25, 26] .done) (.alt 11 (lins [15, 16, 18, 20, 25, 26] .done) .done)) (.alt 11 (lins [11, 15, 16, 18, 20, 25, 26] .done) .done))))]
def pl17 : Nat → Plan := lookD .done [(1, (lins [0, 2, 4, 6, 8, 10, 12, 14, 16, 18] .done)), (3, (lins [0, 2, 4, 6, 8, 10, 12, 14, 16, 18, 20, 22, 24] .done))]
def pl18 : Nat → Plan := lookD .done [(10, (lins [0, 2, 4, 6, 8, 10, 12, 14, 16, 18, 20, 22, 24, 27, 28, 31] .done))]
def pl19 : Nat → Plan := lookD .done [(4, (lins [0, 2, 4, 6, 8, 10, 12, 14, 16, 18, 20, 22] .done))]
def pl20 : Nat → Plan := lookD .done [(6, (lins [0, 2, 4, 6, 8, 10, 12, 14, 16] .done))]
def pl22 : Nat → Plan := lookD .done [(13, (lins [0, 2, 5, 7, 8, 10, 12, 15, 16] .done)), (15, (lins [0, 2, 4, 7, 9, 10, 12, 14, 17, 18] .done))]
def pl25 : Nat → Plan := lookD .done [(10, (lins [0, 2, 4, 6, 8, 10, 14, 16, 18, 20, 24, 26, 13, 23, 29, 31, 32] .done))]
def pl33 : Nat → Plan := lookD .done [(6, (lins [0, 2, 4, 6, 8, 10, 12, 14, 16, 18, 21, 22] .done))]
def pl37 : Nat → Plan := lookD .done [(11, (lins [0, 2, 5, 7, 8, 10, 12, 15, 16] .done)), (13, (lins [0, 2, 4, 7, 9, 10, 12, 14, 17, 18] .done))]
def pl38 : Nat → Plan := lookD .done [(2, (lins [0, 2, 10, 12, 5, 7, 9, 15, 16, 19] .done))]
def pl39 : Nat → Plan := lookD .done [(10, (lins [0, 3, 4, 6, 8, 10, 12, 14, 16, 18, 20, 22, 24, 26, 28, 30, 32, 34, 36, 38, 40, 42, 44, 46, 48, 50] .done))]
def pl40 : Nat → Plan := lookD .done [(14, (lins [0, 3, 4, 6, 8, 10, 12, 14, 16, 18, 20, 22, 24, 26, 28, 30, 32, 34, 36, 38, 40, 42, 44, 46, 48, 50] .done))]
def pl43 : Nat → Plan := lookD .done [(1, (lins [0, 4, 3, 7, 9, 10, 12, 14, 16, 18, 21, 22, 24, 26, 28, 30, 32, 35, 36, 38] .done))]
def pl53 : Nat → Plan := lookD .done [(13, (lins [0, 2, 4, 6, 8, 10, 12, 14] (.alt 8 (.alt 9 (lins [20, 22, 24, 27, 29, 30] .done) (.alt 13 (lins [19, 20, 22, 24, 29, 30] .done) .done)) (.alt 13 (lins [17, 19, 20, 22, 24, 29, 30] .done) .done)))), (17, (lins [0, 2, 4, 6, 8, 10, 12, 15, 16, 18, 20] .done))]
def pl55 : Nat → Plan := lookD .done [(8, (lins [0, 2, 4, 6, 8, 10, 12, 14, 16, 18, 21, 22, 24, 26, 29] .done))]
def pl63 : Nat → Plan := lookD .done [(4, (lins [0, 2, 4, 6, 8, 10, 12, 14, 16, 18, 20, 22] .done))]
def pl67 : Nat → Plan := lookD .done [(5, (lins [0, 2, 4, 7, 9, 10, 12, 15, 16] .done))]
def pl68 : Nat → Plan := lookD .done [(14, (lins [0, 3, 4, 6, 8, 10, 12, 14, 16, 18, 20, 22, 24, 26, 28, 30, 32, 34, 36, 38, 40, 42, 44, 46, 48, 50] .done))]
def pl69 : Nat → Plan := lookD .done [(10, (lins [0, 3, 4, 6, 8, 10, 12, 14, 16, 18, 20, 22, 24, 26, 28, 30, 32, 34, 36, 38, 40, 42, 44, 46, 48, 50] .done))]
def pl70 : Nat → Plan := lookD .done [(6, (lins [0, 2, 4, 6, 8, 10, 12, 14, 16, 18, 21, 22] .done))]
def pl74 : Nat → Plan := lookD .done [(13, (lins [0, 2, 4, 7, 9, 10, 12, 14, 17, 18] .done))]
def pl76 : Nat → Plan := lookD .done [(1, (lins [0, 4, 3, 7, 9, 10, 12, 14, 16, 18, 20, 22, 24, 26, 28, 30, 32, 34, 36, 38, 40, 42, 44, 46, 48, 50, 52, 54, 56, 58, 60, 63, 64, 66, 68, 70, 72, 74, 77, 78, 80] .done))]
def pl79 : Nat → Plan := lookD .done [(10, (lins [2, 4, 14] (.alt 0 (.alt 3 (.alt 4 (lins [10] (.alt 6 (lins [17, 18, 20, 23, 25, 26, 29] .done) (.alt 8 (lins [13, 18, 20, 23, 25, 26, 29] .done) .done))) (.alt 8 (lins [9, 10, 13, 18, 20, 23, 25, 26, 29] .done) .done)) (.alt 4 (lins [10] (.alt 3 (.alt 6 (lins [17, 18, 20, 23, 25, 26, 29] .done) (.alt 8 (lins [13, 18, 20, 23, 25, 26, 29] .done) .done)) (.alt 6 (lins [7, 17, 18, 20, 23, 25, 26, 29] .done) .done))) .done)) (.alt 4 (lins [10] (.alt 0 (.alt 3 (.alt 6 (lins [17, 18, 20, 23, 25, 26, 29] .done) (.alt 8 (lins [13, 18, 20, 23, 25, 26, 29] .done) .done)) (.alt 6 (lins [7, 17, 18, 20, 23, 25, 26, 29] .done) .done)) (.alt 6 (lins [1, 7, 17, 18, 20, 23, 25, 26, 29] .done) .done))) .done)))), (2, (lins [2, 12, 14] (.alt 0 (lins [5, 6, 8, 11, 17, 18, 21] .done) (.alt 2 (lins [1, 6, 8, 11, 17, 18, 21] .done) .done))))]
def pl91 : Nat → Plan := lookD .done [(1, (lins [0, 2, 4, 6] (.alt 4 (lins [10, 13, 15] .done) (.alt 6 (lins [9, 10, 15] .done) .done)))), (5, (lins [0, 2, 4, 7, 9, 11, 12, 15] .done))]
def pl92 : Nat → Plan := lookD .done [(12, (lins [0, 2, 4, 6, 8, 10, 13, 15, 17, 18, 21] .done))]
def pl99 : Nat → Plan := lookD .done [(1, (lins [0, 2, 6, 8, 12, 14, 18, 20, 5, 24, 11, 17, 23, 27, 28, 31, 32, 35, 36, 39] .done)), (7, (lins [0, 2, 4, 7, 9, 11, 12, 15] .done))]
def pl107 : Nat → Plan := lookD .done [(11, (lins [0, 2, 4, 6, 10, 12] (.alt 4 (lins [15, 17] .done) (.alt 7 (lins [9, 17] .done) .done)))), (15, (lins [0, 2, 4, 6, 10, 12] (.alt 4 (lins [15, 17] .done) (.alt 7 (lins [9, 17] .done) .done))))]
def pl110 : Nat → Plan := lookD .done [(1, (lins [2, 4, 8, 1, 7, 11, 13, 15, 16] .done))]
def pl119 : Nat → Plan := lookD .done [(6, (lins [0, 2, 4, 6, 8, 10, 12, 14, 16, 18, 21, 22] .done))]
def pl122 : Nat → Plan := lookD .done [(4, (lins [0, 2, 4, 6, 8, 10, 12, 14, 16, 19, 20, 23] .done))]
def pl123 : Nat → Plan := lookD .done [(4, (lins [0, 3, 4, 6, 8, 10, 12, 14, 16, 18, 20, 22, 24, 27, 28, 30, 32] .done))]
def pl126 : Nat → Plan := lookD .done [(4, (lins [0, 3, 4, 6, 8, 10, 12, 14, 16, 18, 20, 22, 24, 27, 28, 30, 32] .done))]
def pl127 : Nat → Plan := lookD .done [(1, (lins [0, 2, 6, 8, 12, 14, 5, 18, 11, 17, 21, 22, 25, 26, 29] .done))]
def pl130 : Nat → Plan := lookD .done [(6, (lins [0, 2, 4, 6, 8, 10, 12, 14, 16] .done))]
def pl133 : Nat → Plan := lookD .done [(1, (lins [2, 6] (.alt 0 (.alt 2 (lins [9, 11, 13, 14] .done) (.alt 4 (lins [5, 11, 13, 14] .done) .done)) (.alt 4 (lins [1, 5, 11, 13, 14] .done) .done))))]
def pl134 : Nat → Plan := lookD .done [(15, (lins [0, 2, 4, 6, 8, 10, 14, 16, 18, 20, 13, 23, 25] .done))]
def pl136 : Nat → Plan := lookD .done [(4, (lins [0, 2, 4, 6, 8, 10, 12, 14, 16, 22, 24, 28, 30, 32, 19, 20, 26, 34, 36, 38, 40] .done))]
def pl139 : Nat → Plan := lookD .done [(1, (lins [0, 2, 6, 8, 12, 14, 18, 20, 5, 24, 11, 17, 23, 27, 28, 31, 32, 35, 36, 39] .done)), (7, (lins [0, 2, 4, 7, 9, 11, 12, 15] .done))]
def pl140 : Nat → Plan := lookD .done [(8, (lins [0, 2, 6, 5, 9, 11, 13, 14] .done))]
def pl142 : Nat → Plan := lookD .done [(12, (lins [0, 2, 6, 8, 10, 12, 5, 14] .done))]
def pl146 : Nat → Plan := lookD .done [(1, (lins [0, 2, 6, 8, 12, 14, 5, 18, 11, 17, 21, 22, 25, 26, 29] .done))]
def pl153 : Nat → Plan := lookD .done [(11, (lins [0, 2, 4, 6, 10, 12] (.alt 4 (lins [15, 17] .done) (.alt 7 (lins [9, 17] .done) .done)))), (15, (lins [0, 2, 4, 6, 10, 12] (.alt 4 (lins [15, 17] .done) (.alt 7 (lins [9, 17] .done) .done))))]
def pl162 : Nat → Plan := lookD .done [(6, (lins [0, 2, 4, 6, 8, 10, 12, 14, 16] .done))]
def pl165 : Nat → Plan := lookD .done [(6, (lins [0, 2, 4, 6, 8, 10, 12, 14, 16] .done))]
def pl167 : Nat → Plan := lookD .done [(17, (lins [0, 4, 6, 8, 3, 11] .done))]
def pl182 : Nat → Plan := lookD .done [(8, (lins [0, 2, 6, 5, 9, 11, 13, 14] .done)), (12, (lins [0, 2, 4, 6, 8, 11, 13] .done))]
def pl187 : Nat → Plan := lookD .done [(3, (lins [0, 2, 4, 6, 8, 10, 12, 14, 16, 18, 20, 23, 24, 26] .done))]
def pl190 : Nat → Plan := lookD .done [(6, (lins [0, 2, 4, 6, 8, 10, 12, 14, 16] .done))]
def pl192 : Nat → Plan := lookD .done [(6, (lins [0, 2, 4, 6, 8, 10, 12, 14, 16] .done))]
def pl193 : Nat → Plan := lookD .done [(1, (lins [0, 2, 4, 6, 10, 12, 14, 16, 9, 19, 21, 23, 24] .done))]
def pl196 : Nat → Plan := lookD .done [(1, (lins [0, 2, 4, 6] (.alt 4 (lins [10, 13, 15] .done) (.alt 6 (lins [9, 10, 15] .done) .done)))), (5, (lins [0, 2, 4, 7, 9, 11, 12, 15] .done))]
def pl200 : Nat → Plan := lookD .done [(1, (lins [0, 2, 6, 5, 9, 11, 13, 14] .done))]
def pl204 : Nat → Plan := lookD .done [(9, (lins [0, 2, 4, 6, 8, 10, 12, 14, 16, 18, 21, 23, 24, 26, 28, 30, 33] .done))]
def pl216 : Nat → Plan := lookD .done [(2, (lins [0, 2, 4, 7, 8, 10, 12, 14, 16, 18, 20, 22, 24, 28, 30, 32, 34, 27, 37, 38, 40] .done))]
def pl218 : Nat → Plan := lookD .done [(2, (lins [2, 4, 8, 18, 1, 7, 11, 13, 15, 16] .done))]
def pl226 : Nat → Plan := lookD .done [(4, (lins [0, 2, 4, 6, 8, 10] .done))]
def pl229 : Nat → Plan := lookD .done [(6, (lins [0, 2, 4, 6, 8, 10, 13, 14, 16, 19] .done)), (9, (lins [0, 2, 4, 6, 9, 10, 12, 15] .done))]
def pl230 : Nat → Plan := lookD .done [(1, (lins [0, 2, 6, 5, 9, 11, 13, 14] .done)), (5, (lins [0, 2, 4, 7, 8, 10, 12, 16] (.alt 7 (lins [19, 21, 23, 24, 26] .done) (.alt 9 (lins [15, 21, 23, 24, 26] .done) .done)))), (6, (lins [0, 2, 4, 6, 8, 12, 14, 11, 17, 19] .done))]
def pl236 : Nat → Plan := lookD .done [(5, (lins [0, 2, 4, 8, 10, 7, 13, 14] .done))]
def pl239 : Nat → Plan := lookD .done [(11, (lins [0, 2, 4, 6, 10, 12] (.alt 4 (lins [15, 17] .done) (.alt 7 (lins [9, 17] .done) .done)))), (15, (lins [0, 2, 4, 6, 10, 12] (.alt 4 (lins [15, 17] .done) (.alt 7 (lins [9, 17] .done) .done))))]
def pl242 : Nat → Plan := lookD .done [(7, (lins [0, 2, 4, 6, 8, 10, 12, 14, 16, 20, 19, 23, 24, 26] .done))]
def pl252 : Nat → Plan := lookD .done [(8, (lins [0, 2, 4, 6, 8, 10, 12, 14, 16, 18, 20, 22, 24, 26, 28, 30, 32, 34, 37, 38, 40, 42, 44] .done)), (11, (lins [0, 2, 4, 6, 8, 10, 12, 14, 16, 18, 20, 22, 24, 27, 28, 30, 32] .done))]
def pl257 : Nat → Plan := lookD .done [(6, (lins [0, 2, 4, 6, 8, 10, 12, 14, 16, 18] .done)), (11, (lins [0, 2, 4, 6, 8, 10, 12, 14, 16, 18] .done))]
def pl259 : Nat → Plan := lookD .done [(1, (lins [0, 2, 4, 6] (.alt 4 (lins [10, 13, 15] .done) (.alt 6 (lins [9, 10, 15] .done) .done)))), (5, (lins [0, 2, 4, 7, 9, 11, 12, 15] .done))]
def pl260 : Nat → Plan := lookD .done [(5, (lins [0, 2, 4, 8, 10, 7, 13, 14] .done))]
def pl262 : Nat → Plan := lookD .done [(5, (lins [0, 3, 4, 6, 8, 12, 11, 15, 16] .done))]
def pl264 : Nat → Plan := lookD .done [(3, (lins [0, 2, 4, 6, 8, 10, 12, 14, 16, 18, 20, 22, 24, 27, 28, 31] .done))]
def pl268 : Nat → Plan := lookD .done [(6, (lins [0, 2, 4, 6, 8, 10, 12, 14, 16, 18] .done)), (11, (lins [0, 2, 4, 6, 8, 10, 12, 14, 16, 18] .done))]
def pl270 : Nat → Plan := lookD .done [(3, (lins [0, 2, 4, 6, 8, 10, 12, 14, 16, 18, 20, 23, 24, 26] .done))]
def pl274 : Nat → Plan := lookD .done [(5, (lins [0, 2, 6, 5, 8, 11, 12] .done))]
def pl278 : Nat → Plan := lookD .done [(3, (lins [0, 2, 4, 6, 8, 10, 12, 14, 16, 18, 20, 22, 24, 27, 28, 31] .done))]
def pl279 : Nat → Plan := lookD .done [(17, (lins [0, 2, 4, 6, 8, 10, 12, 14, 16, 18, 20, 22, 24, 27, 28, 30, 32] .done))]
def pl282 : Nat → Plan := lookD .done [(4, (lins [0, 2, 4, 6, 8, 14, 16, 18, 22, 24, 26, 28, 11, 12, 20, 30, 32, 34] .done))]
def pl284 : Nat → Plan := lookD .done [(17, (lins [0, 2, 4, 6, 8, 10, 12, 14, 16, 18, 20, 22, 24, 27, 28, 30, 32] .done))]
def pl293 : Nat → Plan := lookD .done [(4, (lins [0, 2, 4, 6, 8, 10, 12, 14, 16, 18, 20, 22, 24, 26, 29, 30, 32] .done)), (6, (lins [0, 2, 4, 6, 8, 10, 12, 14, 16, 18, 20, 22, 24, 26, 28, 31, 32, 35] .done))]
def pl294 : Nat → Plan := lookD .done [(10, (lins [0, 2, 4, 6, 8, 10, 12, 14, 16, 18, 20, 22, 24, 26, 28, 30, 32, 35, 36, 39] .done))]
def pl295 : Nat → Plan := lookD .done [(10, (lins [0, 2, 4, 6, 8, 10, 12, 14, 16, 18, 20, 22, 24, 26, 28, 30, 32, 35, 36, 39] .done))]
def pl297 : Nat → Plan := lookD .done [(3, (lins [0, 2, 4, 6, 8, 10, 12, 14, 16, 18, 20, 22, 24, 27, 28, 31] .done))]
def pl298 : Nat → Plan := lookD .done [(5, (lins [0, 2, 4, 6, 8, 10, 12, 14, 16, 18, 20, 22, 24, 26, 29, 30, 32, 34] .done)), (11, (lins [0, 2, 4, 6, 8, 10, 12, 14, 16, 18, 20, 22, 24, 26, 28, 31, 32, 35] .done)), (16, (lins [0, 2, 4, 6, 8, 10, 12, 14, 16, 18, 21, 22, 24] .done)), (17, (lins [0, 2, 4, 6, 8, 10, 12, 14, 16, 18, 20, 22, 24, 26, 28, 31, 32, 35] .done)), (22, (lins [0, 2, 4, 6, 8, 10, 12, 14, 16, 18, 21, 22, 24] .done)), (23, (lins [0, 2, 4, 6, 8, 10, 12, 14, 16, 18, 20, 22, 24, 26, 28, 31, 32, 35] .done))]
def pl299 : Nat → Plan := lookD .done [(1, (lins [0, 2, 4, 6, 8, 10, 12, 14, 16, 18, 20, 22, 24, 27, 28, 31] .done)), (3, (lins [0, 2, 4, 6, 8, 10, 12, 14, 16, 18, 20, 22, 24, 27, 28, 30, 32] .done)), (5, (lins [0, 2, 4, 6, 8, 10, 12, 14, 16, 18, 20, 22, 24, 27, 28, 30] .done)), (8, (lins [0, 2, 4, 6, 8, 10, 12, 14, 16, 18, 20, 22, 24, 27, 28, 31] .done))]
def pl300 : Nat → Plan := lookD .done [(1, (lins [0, 2, 4, 6, 8, 10, 12, 14, 16, 18, 20, 22, 24, 27, 28, 31] .done)), (3, (lins [0, 2, 4, 6, 8, 10, 12, 14, 16, 18, 20, 22, 24, 27, 28, 30] .done)), (5, (lins [0, 2, 4, 6, 8, 10, 12, 14, 16, 18, 20, 22, 24, 27, 28, 30, 32] .done)), (8, (lins [0, 2, 4, 6, 8, 10, 12, 14, 16, 18, 20, 22, 24, 27, 28, 31] .done)), (10, (lins [0, 2, 4, 6, 8, 10, 12, 14, 16, 18, 20, 22, 24, 27, 28, 31] .done)), (13, (lins [0, 2, 4, 6, 8, 10, 12, 14, 16, 18, 20, 22, 24, 27, 28, 30] .done)), (15, (lins [0, 2, 4, 6, 8, 10, 12, 14, 16, 18, 20, 22, 24, 27, 28, 30, 32] .done)), (18, (lins [0, 2, 4, 6, 8, 10, 12, 14, 16, 18, 20, 22, 24, 27, 28, 31] .done)), (21, (lins [0, 2, 4, 6, 8, 10, 12, 14, 16, 18, 20, 22, 24, 27, 28, 31] .done))]
def pl304 : Nat → Plan := lookD .done [(4, (lins [0, 2, 4, 6, 8, 10, 12, 14, 16, 18, 20, 22, 24, 26, 29, 30, 32] .done)), (6, (lins [0, 2, 4, 6, 8, 10, 12, 14, 16, 18, 20, 22, 24, 26, 28, 31, 32, 35] .done))]
def pl305 : Nat → Plan := lookD .done [(10, (lins [0, 2, 4, 6, 8, 10, 12, 14, 16, 18, 20, 22, 24, 26, 28, 30, 32, 35, 36, 39] .done))]
def pl306 : Nat → Plan := lookD .done [(10, (lins [0, 2, 4, 6, 8, 10, 12, 14, 16, 18, 20, 22, 24, 26, 28, 30, 32, 35, 36, 39] .done))]
def pl308 : Nat → Plan := lookD .done [(3, (lins [0, 2, 4, 6, 8, 10, 12, 14, 16, 18, 20, 22, 24, 27, 28, 31] .done))]
def pl309 : Nat → Plan := lookD .done [(5, (lins [0, 2, 4, 6, 8, 10, 12, 14, 16, 18, 20, 22, 24, 26, 29, 30, 32, 34] .done)), (11, (lins [0, 2, 4, 6, 8, 10, 12, 14, 16, 18, 20, 22, 24, 26, 28, 31, 32, 35] .done)), (16, (lins [0, 2, 4, 6, 8, 10, 12, 14, 16, 18, 21, 22, 24] .done)), (17, (lins [0, 2, 4, 6, 8, 10, 12, 14, 16, 18, 20, 22, 24, 26, 28, 31, 32, 35] .done)), (22, (lins [0, 2, 4, 6, 8, 10, 12, 14, 16, 18, 21, 22, 24] .done)), (23, (lins [0, 2, 4, 6, 8, 10, 12, 14, 16, 18, 20, 22, 24, 26, 28, 31, 32, 35] .done))]
def pl310 : Nat → Plan := lookD .done [(1, (lins [0, 2, 4, 6, 8, 10, 12, 14, 16, 18, 20, 22, 24, 27, 28, 31] .done)), (3, (lins [0, 2, 4, 6, 8, 10, 12, 14, 16, 18, 20, 22, 24, 27, 28, 30, 32] .done)), (5, (lins [0, 2, 4, 6, 8, 10, 12, 14, 16, 18, 20, 22, 24, 27, 28, 30] .done)), (8, (lins [0, 2, 4, 6, 8, 10, 12, 14, 16, 18, 20, 22, 24, 27, 28, 31] .done))]
def pl311 : Nat → Plan := lookD .done [(1, (lins [0, 2, 4, 6, 8, 10, 12, 14, 16, 18, 20, 22, 24, 27, 28, 31] .done)), (3, (lins [0, 2, 4, 6, 8, 10, 12, 14, 16, 18, 20, 22, 24, 27, 28, 30] .done)), (5, (lins [0, 2, 4, 6, 8, 10, 12, 14, 16, 18, 20, 22, 24, 27, 28, 30, 32] .done)), (8, (lins [0, 2, 4, 6, 8, 10, 12, 14, 16, 18, 20, 22, 24, 27, 28, 31] .done)), (10, (lins [0, 2, 4, 6, 8, 10, 12, 14, 16, 18, 20, 22, 24, 27, 28, 31] .done)), (13, (lins [0, 2, 4, 6, 8, 10, 12, 14, 16, 18, 20, 22, 24, 27, 28, 30] .done)), (15, (lins [0, 2, 4, 6, 8, 10, 12, 14, 16, 18, 20, 22, 24, 27, 28, 30, 32] .done)), (18, (lins [0, 2, 4, 6, 8, 10, 12, 14, 16, 18, 20, 22, 24, 27, 28, 31] .done)), (21, (lins [0, 2, 4, 6, 8, 10, 12, 14, 16, 18, 20, 22, 24, 27, 28, 31] .done))]
def pl312 : Nat → Plan := lookD .done [(3, (lins [0, 2, 4, 6, 8, 10, 12, 14, 16, 18, 20, 22, 24, 27, 28, 31] .done))]
def pl315 : Nat → Plan := lookD .done [(3, (lins [0, 2, 4, 6, 8, 10, 12, 14, 16, 18, 20, 22, 24, 26, 28, 30, 32, 34, 36, 39, 40, 42] .done)), (5, (lins [0, 2, 4, 6, 8, 10, 12, 14, 16, 18, 20, 22, 24, 27, 28, 30] .done)), (6, (lins [0, 2, 4, 6, 8, 10, 12, 14, 16, 18, 20, 22, 24, 26, 28, 30, 32, 34, 36, 38, 40, 43, 44, 47] .done))]
def pl317 : Nat → Plan := lookD .done [(1, (lins [0, 2, 4, 6, 8, 10, 12, 14, 16, 19] .done)), (2, (lins [0, 2, 4, 6, 8, 10, 12, 14, 16, 19] .done)), (3, (lins [0, 2, 4, 6, 8, 10, 12, 14, 16, 19] .done))]
def pl321 : Nat → Plan := lookD .done [(3, (lins [0, 2, 4, 6, 8, 10, 12, 14, 16, 18, 20, 22, 24, 26, 28, 30, 32, 34, 36, 39, 40, 42] .done)), (5, (lins [0, 2, 4, 6, 8, 10, 12, 14, 16, 18, 20, 22, 24, 27, 28, 30] .done)), (6, (lins [0, 2, 4, 6, 8, 10, 12, 14, 16, 18, 20, 22, 24, 26, 28, 30, 32, 34, 36, 38, 40, 43, 44, 47] .done))]
def pl324 : Nat → Plan := lookD .done [(1, (lins [0, 2, 4, 6, 8, 10, 12, 14, 16, 19, 20] .done))]
def pl326 : Nat → Plan := lookD .done [(1, (lins [0, 2, 4, 6, 8, 10, 12, 14, 16, 19, 20] .done))]
set_option maxRecDepth 10000
noncomputable abbrev PG := Tryz.prog
def G : Sig := ⟨T, [(178, [true]), (254, [true]), (256, [true]), (257, [true]), (107, [true]), (153, [true])]⟩
abbrev C (f : FuncId) (args : List PV) (res : PV) (outs : List (Nat × Vi.Obj) := []) : Prop := CallOK PG f args res outs
theorem hm : PG.follows .mixedOrders = true := by kernel_rfl
def D0 : Nat → Plan := fun _ => .done
theorem litA {A B : Prop} (h : A) : (true = true → A) ∧ (true = false → B) := ⟨fun _ => h, fun e => Bool.noConfusion e⟩
theorem litB {A B : Prop} (h : B) : (false = true → A) ∧ (false = false → B) := ⟨fun e => Bool.noConfusion e, fun _ => h⟩
theorem litC {A B : Prop} (h : A) : (false = false → A) ∧ (false = true → B) := ⟨fun _ => h, fun e => Bool.noConfusion e⟩
theorem litD {A B : Prop} (h : B) : (true = false → A) ∧ (true = true → B) := ⟨fun e => Bool.noConfusion e, fun _ => h⟩
abbrev I (n : Int) : PV := unI .i64 n
theorem subB {a b : Bool} (h : a = b) : Sub (.sc (.bool a)) (bval b) := .inl (by rw [h]; rfl)
theorem subI {a b : Int} (h : a = b) : Sub (.sc (.int .i64 a)) (I b) := .inl (by rw [h]; rfl)
theorem wrap_id {n : Int} (h1 : -9223372036854775808 ≤ n) (h2 : n ≤ 9223372036854775807) : IntKind.i64.wrap n = n := by
  rw [IntKind.wrap_i64]; omega
theorem RealA.len {args : List PV} (h : RealA args) {sz : Nat} {es : List (List PV)} (hm : .sl none sz es ∈ args) : (es.length : Int) ≤ 9223372036854775807 := (h _ hm (.sl none sz es) (by simp [acells]) rfl).len
abbrev encI (l : List Int) : PV := .sl none 1 (l.map fun x => [I x])
structure Claim where
  topic : Int
  value : Int
  deriving DecidableEq
abbrev encC (c : Claim) : List PV := [I c.topic, I c.value]
abbrev encCs (l : List Claim) : PV := .sl none 2 (l.map encC)
theorem eqC (x y : Claim) : ((x.topic == y.topic) && ((x.value == y.value) && true)) = decide (x = y) := by
  rw [Bool.eq_iff_iff]; cases x; cases y; simp [Claim.mk.injEq]
theorem nat_and_pow (n m : Nat) : n &&& 2 ^ m = if n.testBit m then 2 ^ m else 0 := by
  apply Nat.eq_of_testBit_eq
  intro i
  rw [Nat.testBit_and, Nat.testBit_two_pow]
  by_cases h : m = i
  · subst h
    cases hb : n.testBit m <;> simp [Nat.testBit_two_pow_self]
  · simp only [h, decide_false, Bool.and_false]
    split
    · rw [Nat.testBit_two_pow]; simp [h]
    · simp
theorem and_pow {s k : Int} (h1 : 0 ≤ s) (h2 : s < 1024) (h3 : 0 ≤ k) (h4 : k < 10) :
    IntKind.i64.wrap ((BitVec.ofInt 64 s &&& BitVec.ofInt 64 (IntKind.i64.wrap (1 * 2 ^ min k.toNat 64))).toNat : Int) = if s.toNat.testBit k.toNat then ((2 ^ k.toNat : Nat) : Int) else 0 := by
  obtain ⟨n, rfl⟩ := Int.eq_ofNat_of_zero_le h1
  obtain ⟨m, rfl⟩ := Int.eq_ofNat_of_zero_le h3
  have hm : m < 10 := by omega
  have hn : n < 1024 := by omega
  simp only [Int.toNat_natCast, Int.one_mul]
  have e1 : min m 64 = m := by omega
  rw [e1]
  have e2 : ((2 : Int) ^ m) = ((2 ^ m : Nat) : Int) := by simp
  have hp : (2 : Nat) ^ m ≤ 512 := Nat.pow_le_pow_right (n := 2) (by omega) (show m ≤ 9 by omega)
  have hk := nat_and_pow n m
  rw [e2]
  generalize (2 : Nat) ^ m = q at hp hk
  rw [wrap_id (n := (q : Int)) (by omega) (by omega)]
  have e3 : (BitVec.ofInt 64 (n : Int) &&& BitVec.ofInt 64 (q : Int)).toNat = n &&& q := by
    rw [BitVec.toNat_and, BitVec.ofInt_natCast, BitVec.ofInt_natCast, BitVec.toNat_ofNat, BitVec.toNat_ofNat, Nat.mod_eq_of_lt (by omega), Nat.mod_eq_of_lt (by omega)]
  rw [e3, hk]
  split
  · exact wrap_id (by omega) (by omega)
  · rfl
theorem fitE_ls {τ σ : St} {t id n : Nat} {r : List (Nat × PV)} (h : σ.get t = .ls id n) (hi : (τ.obj id).isSome = true) (hr : fitE τ σ r) : fitE τ σ ((t, .ls id n) :: r) := by
  refine ⟨?_, hr⟩
  cases n with
  | zero => rw [h]; exact ⟨rfl, by simpa [ref3, ref2, ref1] using hi⟩
  | succ n => exact ⟨h, by simpa [ref3, ref2, ref1] using hi⟩
theorem fitC_ls {τ σ : St} {id n : Nat} {cs cs' : List PV} (hi : (τ.obj id).isSome = true) (hr : fitC τ σ cs cs') : fitC τ σ (.ls id n :: cs) (.ls id n :: cs') := by
  refine ⟨?_, hr⟩
  cases n with
  | zero => exact ⟨rfl, by simpa [ref1] using hi⟩
  | succ n => exact ⟨rfl, by simpa [ref1] using hi⟩
set_option maxRecDepth 10000
/-! ref01.Valid, Has -/
def validS (s : Int) : Bool := decide (0 ≤ s ∧ s < 1024)
def hasS (s k : Int) : Bool := decide (0 ≤ s ∧ s < 1024 ∧ 0 ≤ k ∧ k < 10) && s.toNat.testBit k.toNat
theorem f148_ok (s : Int) : C 148 [I s] (bval (validS s)) := by
  refine fn_ok (G := G) tabOK hm D0 Tryz.func148 rfl (by kernel_rfl) (by kernel_rfl) rfl rfl ?_
  repeat' (first | refine And.intro (by rfl) ?_ | refine litA ?_ | refine litB ?_ | refine litC ?_ | refine litD ?_ | refine And.intro trivial ?_ | refine And.intro (keptI (by repeat' (first | refine And.intro ?_ ?_ | exact True.intro | rfl | (simp; done)))) ?_ | (refine And.intro ?_ ?_ <;> intro h))
  all_goals exact ⟨subB (by rw [Bool.eq_iff_iff]; simp at *; simp [validS]; omega), rfl⟩
theorem shr_and {s k : Int} (h1 : 0 ≤ s) (h2 : s < 1024) (h3 : 0 ≤ k) (h4 : k < 10) :
    (IntKind.i64.wrap ((BitVec.ofInt 64 (s.fdiv (2 ^ min k.toNat 64)) &&& BitVec.ofInt 64 1).toNat : Int) == 1) = s.toNat.testBit k.toNat := by
  obtain ⟨n, rfl⟩ := Int.eq_ofNat_of_zero_le h1
  obtain ⟨m, rfl⟩ := Int.eq_ofNat_of_zero_le h3
  simp only [Int.toNat_natCast]
  have e1 : min m 64 = m := by omega
  have e2 : ((2 : Int) ^ m) = ((2 ^ m : Nat) : Int) := by simp
  have hp : 0 < 2 ^ m := Nat.two_pow_pos m
  rw [e1, e2, Nat.testBit_eq_decide_div_mod_eq]
  generalize 2 ^ m = q at hp
  rw [Int.fdiv_eq_ediv_of_nonneg _ (by omega), ← Int.natCast_ediv]
  have hq : n / q ≤ n := Nat.div_le_self _ _
  have e3 : (BitVec.ofInt 64 ((n / q : Nat) : Int) &&& BitVec.ofInt 64 1).toNat = n / q % 2 := by
    rw [show (1 : Int) = ((1 : Nat) : Int) from rfl, BitVec.toNat_and, BitVec.ofInt_natCast, BitVec.ofInt_natCast, BitVec.toNat_ofNat, BitVec.toNat_ofNat, Nat.mod_eq_of_lt (by omega), Nat.mod_eq_of_lt (by omega), Nat.and_one_is_mod]
  rw [e3, wrap_id (by omega) (by omega), Bool.eq_iff_iff]
  simp only [beq_iff_eq, decide_eq_true_eq]; omega
theorem f61_ok (s k : Int) : C 61 [I s, I k] (bval (hasS s k)) := by
  refine fn_ok (G := G) tabOK hm D0 Tryz.func61 rfl (by kernel_rfl) (by kernel_rfl) rfl rfl ?_
  repeat (first | refine And.intro (by rfl) ?_ | refine litA ?_ | refine litB ?_ | refine litC ?_ | refine litD ?_ | refine And.intro trivial ?_ | refine And.intro (keptI (by repeat' (first | refine And.intro ?_ ?_ | exact True.intro | rfl | (simp; done)))) ?_)
  refine ⟨_, _, f148_ok s, rfl, rfl, trivial, ?_⟩
  repeat' (first | refine And.intro (by rfl) ?_ | refine litA ?_ | refine litB ?_ | refine litC ?_ | refine litD ?_ | refine And.intro trivial ?_ | refine And.intro (keptI (by repeat' (first | refine And.intro ?_ ?_ | exact True.intro | rfl | (simp; done)))) ?_ | (refine And.intro ?_ ?_ <;> intro h))
  · rename_i h1 h2
    simp [validS] at h1 h2 h
    refine ⟨h2, ?_⟩
    repeat' (first | refine And.intro (by rfl) ?_ | refine litA ?_ | refine litB ?_ | refine litC ?_ | refine litD ?_ | refine And.intro trivial ?_ | refine And.intro (keptI (by repeat' (first | refine And.intro ?_ ?_ | exact True.intro | rfl | (simp; done)))) ?_ | (refine And.intro ?_ ?_ <;> intro h))
    exact ⟨subB ((shr_and h1.1 h1.2 h2 h).trans (by simp [hasS, h1, h2, h])), rfl⟩
  all_goals exact ⟨subB (by simp [validS] at *; simp [hasS]; omega), rfl⟩
set_option maxRecDepth 10000
def nodeS (k : Int) : Bool := decide (0 ≤ k ∧ k < 10)
theorem f285_ok (s : Int) : C 285 [I s, I 10] (bval (validS s)) := by
  refine fn_ok (G := G) tabOK hm D0 Tryz.func285 rfl (by kernel_rfl) (by kernel_rfl) rfl rfl ?_
  repeat' (first | refine And.intro (by rfl) ?_ | refine litA ?_ | refine litB ?_ | refine litC ?_ | refine litD ?_ | refine And.intro trivial ?_ | refine And.intro (keptI (by repeat' (first | refine And.intro ?_ ?_ | exact True.intro | rfl | (simp; done)))) ?_ | (refine And.intro ?_ ?_ <;> intro h))
  · refine ⟨by omega, ?_⟩
    repeat' (first | refine And.intro (by rfl) ?_ | refine litA ?_ | refine litB ?_ | refine litC ?_ | refine litD ?_ | refine And.intro trivial ?_ | refine And.intro (keptI (by repeat' (first | refine And.intro ?_ ?_ | exact True.intro | rfl | (simp; done)))) ?_ | (refine And.intro ?_ ?_ <;> intro h))
    exact ⟨subB (Eq.trans (b := decide (s < 1024)) rfl (by simp at h; simp [validS, h])), rfl⟩
  · exact ⟨subB (by simp at h; simp [validS]; omega), rfl⟩
theorem f269_ok (s : Int) : C 269 [I s] (bval (validS s)) := by
  refine fn_ok (G := G) tabOK hm D0 Tryz.func269 rfl (by kernel_rfl) (by kernel_rfl) rfl rfl ?_
  repeat (first | refine And.intro (by rfl) ?_ | refine litA ?_ | refine litB ?_ | refine litC ?_ | refine litD ?_ | refine And.intro trivial ?_ | refine And.intro (keptI (by repeat' (first | refine And.intro ?_ ?_ | exact True.intro | rfl | (simp; done)))) ?_)
  refine ⟨_, _, f285_ok s, rfl, rfl, trivial, ?_⟩
  repeat (first | refine And.intro (by rfl) ?_ | refine litA ?_ | refine litB ?_ | refine litC ?_ | refine litD ?_ | refine And.intro trivial ?_ | refine And.intro (keptI (by repeat' (first | refine And.intro ?_ ?_ | exact True.intro | rfl | (simp; done)))) ?_)
  exact ⟨subB rfl, rfl⟩
theorem and_ne {s k : Int} (h1 : 0 ≤ s) (h2 : s < 1024) (h3 : 0 ≤ k) (h4 : k < 10) :
    (IntKind.i64.wrap ((BitVec.ofInt 64 s &&& BitVec.ofInt 64 (IntKind.i64.wrap (1 * 2 ^ min k.toNat 64))).toNat : Int) != 0) = s.toNat.testBit k.toNat := by
  rw [and_pow h1 h2 h3 h4]
  have h2 := Nat.two_pow_pos k.toNat
  cases s.toNat.testBit k.toNat
  · rfl
  · rw [if_pos rfl, bne_iff_ne]
    intro hz
    have : (2 ^ k.toNat : Nat) = 0 := by exact_mod_cast hz
    omega
theorem f240_ok (s k : Int) : C 240 [I s, I k] (bval (hasS s k)) := by
  refine fn_ok (G := G) tabOK hm D0 Tryz.func240 rfl (by kernel_rfl) (by kernel_rfl) rfl rfl ?_
  repeat (first | refine And.intro (by rfl) ?_ | refine litA ?_ | refine litB ?_ | refine litC ?_ | refine litD ?_ | refine And.intro trivial ?_ | refine And.intro (keptI (by repeat' (first | refine And.intro ?_ ?_ | exact True.intro | rfl | (simp; done)))) ?_)
  refine ⟨_, _, f269_ok s, rfl, rfl, trivial, ?_⟩
  repeat' (first | refine And.intro (by rfl) ?_ | refine litA ?_ | refine litB ?_ | refine litC ?_ | refine litD ?_ | refine And.intro trivial ?_ | refine And.intro (keptI (by repeat' (first | refine And.intro ?_ ?_ | exact True.intro | rfl | (simp; done)))) ?_ | (refine And.intro ?_ ?_ <;> intro h))
  · rename_i h1 h2
    simp [validS] at h1 h2 h
    refine ⟨h2, ?_⟩
    repeat' (first | refine And.intro (by rfl) ?_ | refine litA ?_ | refine litB ?_ | refine litC ?_ | refine litD ?_ | refine And.intro trivial ?_ | refine And.intro (keptI (by repeat' (first | refine And.intro ?_ ?_ | exact True.intro | rfl | (simp; done)))) ?_ | (refine And.intro ?_ ?_ <;> intro h))
    exact ⟨subB ((and_ne h1.1 h1.2 h2 h).trans (by simp [hasS, h1, h2, h])), rfl⟩
  all_goals exact ⟨subB (by simp [validS] at *; simp [hasS]; omega), rfl⟩
theorem f223_ok (k : Int) : C 223 [I k] (bval (nodeS k)) := by
  refine fn_ok (G := G) tabOK hm D0 Tryz.func223 rfl (by kernel_rfl) (by kernel_rfl) rfl rfl ?_
  repeat' (first | refine And.intro (by rfl) ?_ | refine litA ?_ | refine litB ?_ | refine litC ?_ | refine litD ?_ | refine And.intro trivial ?_ | refine And.intro (keptI (by repeat' (first | refine And.intro ?_ ?_ | exact True.intro | rfl | (simp; done)))) ?_ | (refine And.intro ?_ ?_ <;> intro h))
  all_goals exact ⟨subB (by rw [Bool.eq_iff_iff]; simp at *; simp [nodeS]; omega), rfl⟩
theorem f183_ok (k : Int) : C 183 [I k] (bval (nodeS k)) := by
  refine fn_ok (G := G) tabOK hm D0 Tryz.func183 rfl (by kernel_rfl) (by kernel_rfl) rfl rfl ?_
  repeat' (first | refine And.intro (by rfl) ?_ | refine litA ?_ | refine litB ?_ | refine litC ?_ | refine litD ?_ | refine And.intro trivial ?_ | refine And.intro (keptI (by repeat' (first | refine And.intro ?_ ?_ | exact True.intro | rfl | (simp; done)))) ?_ | (refine And.intro ?_ ?_ <;> intro h))
  all_goals exact ⟨subB (by rw [Bool.eq_iff_iff]; simp at *; simp [nodeS]; omega), rfl⟩
theorem f222_ok (k : Int) : C 222 [I k] (bval (!nodeS k)) := by
  refine fn_ok (G := G) tabOK hm D0 Tryz.func222 rfl (by kernel_rfl) (by kernel_rfl) rfl rfl ?_
  repeat (first | refine And.intro (by rfl) ?_ | refine litA ?_ | refine litB ?_ | refine litC ?_ | refine litD ?_ | refine And.intro trivial ?_ | refine And.intro (keptI (by repeat' (first | refine And.intro ?_ ?_ | exact True.intro | rfl | (simp; done)))) ?_)
  refine ⟨_, _, f223_ok k, rfl, rfl, trivial, ?_⟩
  repeat (first | refine And.intro (by rfl) ?_ | refine litA ?_ | refine litB ?_ | refine litC ?_ | refine litD ?_ | refine And.intro trivial ?_ | refine And.intro (keptI (by repeat' (first | refine And.intro ?_ ?_ | exact True.intro | rfl | (simp; done)))) ?_)
  exact ⟨subB rfl, rfl⟩
/-! claims -/
def Claim.ok (x : Claim) : Bool := decide (0 ≤ x.topic ∧ x.topic < 8 ∧ 0 ≤ x.value ∧ x.value ≤ 15)
def contra (a b : Claim) : Bool := decide (a.topic = b.topic ∧ a.value ≠ b.value)
theorem f94_ok (x : Claim) : C 94 [.agg (encC x)] (bval x.ok) := by
  refine fn_ok (G := G) tabOK hm D0 Tryz.func94 rfl (by kernel_rfl) (by kernel_rfl) rfl rfl ?_
  repeat' (first | refine And.intro (by rfl) ?_ | refine litA ?_ | refine litB ?_ | refine litC ?_ | refine litD ?_ | refine And.intro trivial ?_ | refine And.intro (keptI (by repeat' (first | refine And.intro ?_ ?_ | exact True.intro | rfl | (simp; done)))) ?_ | (refine And.intro ?_ ?_ <;> intro h))
  all_goals exact ⟨subB (by rw [Bool.eq_iff_iff]; simp at *; simp [Claim.ok]; omega), rfl⟩
theorem f132_ok (x : Claim) : C 132 [.agg (encC x)] (bval x.ok) := by
  refine fn_ok (G := G) tabOK hm D0 Tryz.func132 rfl (by kernel_rfl) (by kernel_rfl) rfl rfl ?_
  repeat' (first | refine And.intro (by rfl) ?_ | refine litA ?_ | refine litB ?_ | refine litC ?_ | refine litD ?_ | refine And.intro trivial ?_ | refine And.intro (keptI (by repeat' (first | refine And.intro ?_ ?_ | exact True.intro | rfl | (simp; done)))) ?_ | (refine And.intro ?_ ?_ <;> intro h))
  all_goals exact ⟨subB (by rw [Bool.eq_iff_iff]; simp at *; simp [Claim.ok]; omega), rfl⟩
theorem f255_ok (x : Claim) : C 255 [.agg (encC x)] (bval (!x.ok)) := by
  refine fn_ok (G := G) tabOK hm D0 Tryz.func255 rfl (by kernel_rfl) (by kernel_rfl) rfl rfl ?_
  repeat (first | refine And.intro (by rfl) ?_ | refine litA ?_ | refine litB ?_ | refine litC ?_ | refine litD ?_ | refine And.intro trivial ?_ | refine And.intro (keptI (by repeat' (first | refine And.intro ?_ ?_ | exact True.intro | rfl | (simp; done)))) ?_)
  refine ⟨_, _, f94_ok x, rfl, rfl, trivial, ?_⟩
  repeat (first | refine And.intro (by rfl) ?_ | refine litA ?_ | refine litB ?_ | refine litC ?_ | refine litD ?_ | refine And.intro trivial ?_ | refine And.intro (keptI (by repeat' (first | refine And.intro ?_ ?_ | exact True.intro | rfl | (simp; done)))) ?_)
  exact ⟨subB rfl, rfl⟩
theorem f96_ok (a b : Claim) : C 96 [.agg (encC a), .agg (encC b)] (bval (contra a b)) := by
  refine fn_ok (G := G) tabOK hm D0 Tryz.func96 rfl (by kernel_rfl) (by kernel_rfl) rfl rfl ?_
  repeat' (first | refine And.intro (by rfl) ?_ | refine litA ?_ | refine litB ?_ | refine litC ?_ | refine litD ?_ | refine And.intro trivial ?_ | refine And.intro (keptI (by repeat' (first | refine And.intro ?_ ?_ | exact True.intro | rfl | (simp; done)))) ?_ | (refine And.intro ?_ ?_ <;> intro h))
  all_goals exact ⟨subB (by rw [Bool.eq_iff_iff]; simp at *; simp [contra, h]), rfl⟩
theorem f112_ok (a b : Claim) : C 112 [.agg (encC a), .agg (encC b)] (bval (contra a b)) := by
  refine fn_ok (G := G) tabOK hm D0 Tryz.func112 rfl (by kernel_rfl) (by kernel_rfl) rfl rfl ?_
  repeat' (first | refine And.intro (by rfl) ?_ | refine litA ?_ | refine litB ?_ | refine litC ?_ | refine litD ?_ | refine And.intro trivial ?_ | refine And.intro (keptI (by repeat' (first | refine And.intro ?_ ?_ | exact True.intro | rfl | (simp; done)))) ?_ | (refine And.intro ?_ ?_ <;> intro h))
  all_goals exact ⟨subB (by rw [Bool.eq_iff_iff]; simp at *; simp [contra, h]), rfl⟩
def cmpI (a b : Int) : Int := if a < b then -1 else if a > b then 1 else 0
theorem f184_ok (a : Int) : C 184 [I a] (bval false) := by
  refine fn_ok (G := G) tabOK hm D0 Tryz.func184 rfl (by kernel_rfl) (by kernel_rfl) rfl rfl ?_
  repeat (first | refine And.intro (by rfl) ?_ | refine litA ?_ | refine litB ?_ | refine litC ?_ | refine litD ?_ | refine And.intro trivial ?_ | refine And.intro (keptI (by repeat' (first | refine And.intro ?_ ?_ | exact True.intro | rfl | (simp; done)))) ?_)
  exact ⟨subB (by simp), rfl⟩
theorem f105_ok (a b : Int) : C 105 [I a, I b] (I (cmpI a b)) := by
  refine fn_ok (G := G) tabOK hm D0 Tryz.func105 rfl (by kernel_rfl) (by kernel_rfl) rfl rfl ?_
  repeat (first | refine And.intro (by rfl) ?_ | refine litA ?_ | refine litB ?_ | refine litC ?_ | refine litD ?_ | refine And.intro trivial ?_ | refine And.intro (keptI (by repeat' (first | refine And.intro ?_ ?_ | exact True.intro | rfl | (simp; done)))) ?_)
  refine ⟨_, _, f184_ok a, rfl, rfl, trivial, ?_⟩
  repeat (first | refine And.intro (by rfl) ?_ | refine litA ?_ | refine litB ?_ | refine litC ?_ | refine litD ?_ | refine And.intro trivial ?_ | refine And.intro (keptI (by repeat' (first | refine And.intro ?_ ?_ | exact True.intro | rfl | (simp; done)))) ?_)
  refine ⟨_, _, f184_ok b, rfl, rfl, trivial, ?_⟩
  repeat' (first | refine And.intro (by rfl) ?_ | refine litA ?_ | refine litB ?_ | refine litC ?_ | refine litD ?_ | refine And.intro trivial ?_ | refine And.intro (keptI (by repeat' (first | refine And.intro ?_ ?_ | exact True.intro | rfl | (simp; done)))) ?_ | (refine And.intro ?_ ?_ <;> intro h))
  all_goals exact ⟨subI (by simp at *; simp [cmpI]; omega), rfl⟩
set_option maxRecDepth 10000
theorem lenI {l : List Int} {args : List PV} (hr : RealA args) (hm : encI l ∈ args) : (l.length : Int) ≤ 9223372036854775807 := by simpa using RealA.len hr (sz := 1) hm
theorem lenC {l : List Claim} {args : List PV} (hr : RealA args) (hm : encCs l ∈ args) : (l.length : Int) ≤ 9223372036854775807 := by simpa using RealA.len hr (sz := 2) hm
theorem all_snoc {α : Type} {Q : α → Prop} {A : List α} {y : α} (h : ∀ z ∈ A, Q z) (hy : Q y) : ∀ z ∈ A ++ [y], Q z := by
  intro z hz
  rcases List.mem_append.1 hz with h' | h'
  · exact h z h'
  · rw [List.mem_singleton.1 h']; exact hy
theorem split_at {α : Type} {l : List α} {k : Nat} {y : α} (h : l[k]? = some y) : l = l.take k ++ y :: l.drop (k + 1) := by
  obtain ⟨hk, rfl⟩ := List.getElem?_eq_some_iff.1 h
  rw [List.getElem_cons_drop, List.take_append_drop]
theorem find_at {α : Type} {l : List α} {p : α → Bool} {k : Nat} {y : α} (h : ∀ z ∈ l.take k, p z = false) (hy : l[k]? = some y) (hp : p y = true) : l.find? p = some y := by
  rw [split_at hy, List.find?_append, List.find?_eq_none.2 (by simpa using h)]
  simp [hp]
theorem findIdx_at {α : Type} {l : List α} {p : α → Bool} {k : Nat} {y : α} (h : ∀ z ∈ l.take k, p z = false) (hy : l[k]? = some y) (hp : p y = true) : l.findIdx? p = some k := by
  obtain ⟨hk, rfl⟩ := List.getElem?_eq_some_iff.1 hy
  rw [List.findIdx?_eq_some_iff_getElem]
  refine ⟨hk, hp, fun j hj => ?_⟩
  have := h l[j] (List.mem_take_iff_getElem.2 ⟨j, by omega, rfl⟩)
  simp [this]
def orI (l : List Int) : Int := (l.find? (· ≠ 0)).getD 0
theorem f169_ok (l : List Int) : C 169 [encI l] (I (orI l)) := by
  refine fn_real (G := G) tabOK hm D0 Tryz.func169 rfl (by kernel_rfl) (by kernel_rfl) rfl rfl fun hr => ?_
  have hlen := lenI (l := l) hr (by simp)
  repeat (first | refine And.intro (by rfl) ?_ | refine litA ?_ | refine litB ?_ | refine litC ?_ | refine litD ?_ | refine And.intro trivial ?_ | refine And.intro (keptI (by repeat' (first | refine And.intro ?_ ?_ | exact True.intro | rfl | (simp; done)))) ?_)
  refine loop_ok (G := G) tabOK hm D0 (α := {k : Nat // k ≤ l.length ∧ ∀ y ∈ l.take k, y = 0}) (fun k => ⟨18, [(8, I k.1), (7, I (l.map fun x => [I x]).length), (6, encI l), (3, I 0)], []⟩) (fun k => l.length - k.1) (by kernel_rfl) ⟨0, Nat.zero_le _, by first | rfl | simp⟩ ?_ ?_
  · repeat' (first | refine fitE_ls rfl rfl ?_ | refine fitC_ls rfl ?_ | refine And.intro ?_ ?_ | exact True.intro | rfl | exact ⟨_, _, rfl, rfl⟩ | exact ⟨_, _, rfl⟩ | decide | (simp [St.get, St.obj, look, lookD, unI, List.map_take]; done))
  rintro ⟨k, hk, hx⟩
  repeat (first | refine And.intro (by rfl) ?_ | refine litA ?_ | refine litB ?_ | refine litC ?_ | refine litD ?_ | refine And.intro trivial ?_ | refine And.intro (keptI (by repeat' (first | refine And.intro ?_ ?_ | exact True.intro | rfl | (simp; done)))) ?_)
  refine And.intro (fun h => ?_) (fun h => ?_)
  rotate_left
  · have hl : l.length ≤ k := by simpa using h
    repeat (first | refine And.intro (by rfl) ?_ | refine litA ?_ | refine litB ?_ | refine litC ?_ | refine litD ?_ | refine And.intro trivial ?_ | refine And.intro (keptI (by repeat' (first | refine And.intro ?_ ?_ | exact True.intro | rfl | (simp; done)))) ?_)
    have ek : l.take k = l := List.take_of_length_le hl
    try rw [ek] at hx
    exact ⟨subI (by rw [orI, List.find?_eq_none.2 (by simpa using hx)]; rfl), rfl⟩
  have hk' : k < l.length := by simpa using h
  obtain ⟨y, hy⟩ : ∃ y, l[k]? = some y := ⟨_, List.getElem?_eq_getElem hk'⟩
  have e : IntKind.i64.wrap ((k : Int) + 1) = ((k + 1 : Nat) : Int) := by rw [wrap_id] <;> omega
  have et : l.take (k + 1) = l.take k ++ [y] := by rw [List.take_add_one, hy]; rfl
  repeat (first | refine And.intro (by rfl) ?_ | refine litA ?_ | refine litB ?_ | refine litC ?_ | refine litD ?_ | refine And.intro trivial ?_ | refine And.intro (keptI (by repeat' (first | refine And.intro ?_ ?_ | exact True.intro | rfl | (simp; done)))) ?_)
  refine ⟨by simp, [I y], by simp [hy], ?_⟩
  repeat' (first | refine And.intro (by rfl) ?_ | refine litA ?_ | refine litB ?_ | refine litC ?_ | refine litD ?_ | refine And.intro trivial ?_ | refine And.intro (keptI (by repeat' (first | refine And.intro ?_ ?_ | exact True.intro | rfl | (simp; done)))) ?_ | (refine And.intro ?_ ?_ <;> intro h))
  · refine ⟨subI ?_, rfl⟩
    simp at h
    rw [orI, find_at (y := y) (by simpa using hx) hy (by simpa using h)]; rfl
  · refine ⟨⟨k + 1, hk', (by rw [et]; exact all_snoc hx (by simpa using h))⟩, ?_, ?_⟩
    · repeat' (first | refine fitE_ls rfl rfl ?_ | refine fitC_ls rfl ?_ | exact congrArg I e | refine And.intro ?_ ?_ | exact True.intro | rfl | exact ⟨_, _, rfl, rfl⟩ | exact ⟨_, _, rfl⟩ | decide | (simp [St.get, St.obj, look, lookD, unI, List.map_take]; done))
    · dsimp only; omega
/-! slices.IndexFunc, ContainsFunc on whole numbers -/
def idxOf {α : Type} (p : α → Bool) (l : List α) : Int := match l.findIdx? p with | some i => (i : Int) | none => -1
theorem idxOf_nonneg {α : Type} (p : α → Bool) (l : List α) : decide (idxOf p l ≥ 0) = l.any p := by
  rw [Bool.eq_iff_iff, decide_eq_true_iff]
  unfold idxOf
  split
  · rename_i i h
    obtain ⟨hi, hp, _⟩ := List.findIdx?_eq_some_iff_getElem.1 h
    simp only [List.any_eq_true]
    exact ⟨fun _ => ⟨_, List.getElem_mem hi, hp⟩, fun _ => by omega⟩
  · rename_i h
    simp [List.findIdx?_eq_none_iff] at h
    constructor
    · intro h; omega
    · simp; intro x hx; simp [h x hx]
theorem f253_ok (l : List Int) (g : Nat) (p : Int → Bool) (hg : ∀ x, C g ([I x]) (bval (p x))) : C 253 [encI l, .fn g []] (I (idxOf p l)) := by
  refine fn_real (G := G) tabOK hm D0 Tryz.func253 rfl (by kernel_rfl) (by kernel_rfl) rfl rfl fun hr => ?_
  have hlen := lenI (l := l) hr (by simp)
  repeat (first | refine And.intro (by rfl) ?_ | refine litA ?_ | refine litB ?_ | refine litC ?_ | refine litD ?_ | refine And.intro trivial ?_ | refine And.intro (keptI (by repeat' (first | refine And.intro ?_ ?_ | exact True.intro | rfl | (simp; done)))) ?_)
  refine loop_ok (G := G) tabOK hm D0 (α := {k : Nat // k ≤ l.length ∧ ∀ y ∈ l.take k, p y = false}) (fun k => ⟨19, [(8, I k.1), (7, I (l.map fun x => [I x]).length), (6, encI l), (0, encI l), (1, .fn g [])], []⟩) (fun k => l.length - k.1) (by kernel_rfl) ⟨0, Nat.zero_le _, by first | rfl | simp⟩ ?_ ?_
  · repeat' (first | refine fitE_ls rfl rfl ?_ | refine fitC_ls rfl ?_ | refine And.intro ?_ ?_ | exact True.intro | rfl | exact ⟨_, _, rfl, rfl⟩ | exact ⟨_, _, rfl⟩ | decide | (simp [St.get, St.obj, look, lookD, unI, List.map_take]; done))
  rintro ⟨k, hk, hx⟩
  repeat (first | refine And.intro (by rfl) ?_ | refine litA ?_ | refine litB ?_ | refine litC ?_ | refine litD ?_ | refine And.intro trivial ?_ | refine And.intro (keptI (by repeat' (first | refine And.intro ?_ ?_ | exact True.intro | rfl | (simp; done)))) ?_)
  refine And.intro (fun h => ?_) (fun h => ?_)
  rotate_left
  · have hl : l.length ≤ k := by simpa using h
    repeat (first | refine And.intro (by rfl) ?_ | refine litA ?_ | refine litB ?_ | refine litC ?_ | refine litD ?_ | refine And.intro trivial ?_ | refine And.intro (keptI (by repeat' (first | refine And.intro ?_ ?_ | exact True.intro | rfl | (simp; done)))) ?_)
    have ek : l.take k = l := List.take_of_length_le hl
    try rw [ek] at hx
    exact ⟨subI (by rw [idxOf, List.findIdx?_eq_none_iff.2 (by simpa using hx)]), rfl⟩
  have hk' : k < l.length := by simpa using h
  obtain ⟨y, hy⟩ : ∃ y, l[k]? = some y := ⟨_, List.getElem?_eq_getElem hk'⟩
  have e : IntKind.i64.wrap ((k : Int) + 1) = ((k + 1 : Nat) : Int) := by rw [wrap_id] <;> omega
  have et : l.take (k + 1) = l.take k ++ [y] := by rw [List.take_add_one, hy]; rfl
  repeat (first | refine And.intro (by rfl) ?_ | refine litA ?_ | refine litB ?_ | refine litC ?_ | refine litD ?_ | refine And.intro trivial ?_ | refine And.intro (keptI (by repeat' (first | refine And.intro ?_ ?_ | exact True.intro | rfl | (simp; done)))) ?_)
  refine ⟨by simp, [I y], by simp [hy], ?_⟩
  repeat (first | refine And.intro (by rfl) ?_ | refine litA ?_ | refine litB ?_ | refine litC ?_ | refine litD ?_ | refine And.intro trivial ?_ | refine And.intro (keptI (by repeat' (first | refine And.intro ?_ ?_ | exact True.intro | rfl | (simp; done)))) ?_)
  refine ⟨_, _, hg y, rfl, rfl, trivial, ?_⟩
  repeat' (first | refine And.intro (by rfl) ?_ | refine litA ?_ | refine litB ?_ | refine litC ?_ | refine litD ?_ | refine And.intro trivial ?_ | refine And.intro (keptI (by repeat' (first | refine And.intro ?_ ?_ | exact True.intro | rfl | (simp; done)))) ?_ | (refine And.intro ?_ ?_ <;> intro h))
  · exact ⟨subI (by rw [idxOf, findIdx_at hx hy h]), rfl⟩
  · refine ⟨⟨k + 1, hk', (by rw [et]; exact all_snoc hx h)⟩, ?_, ?_⟩
    · repeat' (first | refine fitE_ls rfl rfl ?_ | refine fitC_ls rfl ?_ | exact congrArg I e | refine And.intro ?_ ?_ | exact True.intro | rfl | exact ⟨_, _, rfl, rfl⟩ | exact ⟨_, _, rfl⟩ | decide | (simp [St.get, St.obj, look, lookD, unI, List.map_take]; done))
    · dsimp only; omega
theorem f221_ok (l : List Int) (g : Nat) (p : Int → Bool) (hg : ∀ x, C g [I x] (bval (p x))) : C 221 [encI l, .fn g []] (bval (l.any p)) := by
  refine fn_ok (G := G) tabOK hm D0 Tryz.func221 rfl (by kernel_rfl) (by kernel_rfl) rfl rfl ?_
  repeat (first | refine And.intro (by rfl) ?_ | refine litA ?_ | refine litB ?_ | refine litC ?_ | refine litD ?_ | refine And.intro trivial ?_ | refine And.intro (keptI (by repeat' (first | refine And.intro ?_ ?_ | exact True.intro | rfl | (simp; done)))) ?_)
  refine ⟨_, _, f253_ok l g p hg, rfl, rfl, trivial, ?_⟩
  repeat (first | refine And.intro (by rfl) ?_ | refine litA ?_ | refine litB ?_ | refine litC ?_ | refine litD ?_ | refine And.intro trivial ?_ | refine And.intro (keptI (by repeat' (first | refine And.intro ?_ ?_ | exact True.intro | rfl | (simp; done)))) ?_)
  exact ⟨subB (idxOf_nonneg p l), rfl⟩
/-! the same on claims -/
theorem f178_ok (l : List Claim) (g : Nat) (p : Claim → Bool) (hg : ∀ x, C g [.agg (encC x)] (bval (p x))) : C 178 [encCs l, .fn g []] (I (idxOf p l)) := by
  refine fn_real (G := G) tabOK hm D0 Tryz.func178 rfl (by kernel_rfl) (by kernel_rfl) rfl rfl fun hr => ?_
  have hlen := lenC (l := l) hr (by simp)
  repeat (first | refine And.intro (by rfl) ?_ | refine litA ?_ | refine litB ?_ | refine litC ?_ | refine litD ?_ | refine And.intro trivial ?_ | refine And.intro (keptI (by repeat' (first | refine And.intro ?_ ?_ | exact True.intro | rfl | (simp; done)))) ?_)
  refine loop_ok (G := G) tabOK hm D0 (α := {k : Nat // k ≤ l.length ∧ ∀ y ∈ l.take k, p y = false}) (fun k => ⟨19, [(8, I k.1), (7, I (l.map encC).length), (6, encCs l), (0, encCs l), (1, .fn g [])], []⟩) (fun k => l.length - k.1) (by kernel_rfl) ⟨0, Nat.zero_le _, by first | rfl | simp⟩ ?_ ?_
  · repeat' (first | refine fitE_ls rfl rfl ?_ | refine fitC_ls rfl ?_ | refine And.intro ?_ ?_ | exact True.intro | rfl | exact ⟨_, _, rfl, rfl⟩ | exact ⟨_, _, rfl⟩ | decide | (simp [St.get, St.obj, look, lookD, unI, List.map_take]; done))
  rintro ⟨k, hk, hx⟩
  repeat (first | refine And.intro (by rfl) ?_ | refine litA ?_ | refine litB ?_ | refine litC ?_ | refine litD ?_ | refine And.intro trivial ?_ | refine And.intro (keptI (by repeat' (first | refine And.intro ?_ ?_ | exact True.intro | rfl | (simp; done)))) ?_)
  refine And.intro (fun h => ?_) (fun h => ?_)
  rotate_left
  · have hl : l.length ≤ k := by simpa using h
    repeat (first | refine And.intro (by rfl) ?_ | refine litA ?_ | refine litB ?_ | refine litC ?_ | refine litD ?_ | refine And.intro trivial ?_ | refine And.intro (keptI (by repeat' (first | refine And.intro ?_ ?_ | exact True.intro | rfl | (simp; done)))) ?_)
    have ek : l.take k = l := List.take_of_length_le hl
    try rw [ek] at hx
    exact ⟨subI (by rw [idxOf, List.findIdx?_eq_none_iff.2 (by simpa using hx)]), rfl⟩
  have hk' : k < l.length := by simpa using h
  obtain ⟨y, hy⟩ : ∃ y, l[k]? = some y := ⟨_, List.getElem?_eq_getElem hk'⟩
  have e : IntKind.i64.wrap ((k : Int) + 1) = ((k + 1 : Nat) : Int) := by rw [wrap_id] <;> omega
  have et : l.take (k + 1) = l.take k ++ [y] := by rw [List.take_add_one, hy]; rfl
  repeat (first | refine And.intro (by rfl) ?_ | refine litA ?_ | refine litB ?_ | refine litC ?_ | refine litD ?_ | refine And.intro trivial ?_ | refine And.intro (keptI (by repeat' (first | refine And.intro ?_ ?_ | exact True.intro | rfl | (simp; done)))) ?_)
  refine ⟨by simp, encC y, by simp [hy], ?_⟩
  repeat (first | refine And.intro (by rfl) ?_ | refine litA ?_ | refine litB ?_ | refine litC ?_ | refine litD ?_ | refine And.intro trivial ?_ | refine And.intro (keptI (by repeat' (first | refine And.intro ?_ ?_ | exact True.intro | rfl | (simp; done)))) ?_)
  refine ⟨_, _, hg y, rfl, rfl, trivial, ?_⟩
  repeat' (first | refine And.intro (by rfl) ?_ | refine litA ?_ | refine litB ?_ | refine litC ?_ | refine litD ?_ | refine And.intro trivial ?_ | refine And.intro (keptI (by repeat' (first | refine And.intro ?_ ?_ | exact True.intro | rfl | (simp; done)))) ?_ | (refine And.intro ?_ ?_ <;> intro h))
  · exact ⟨subI (by rw [idxOf, findIdx_at hx hy h]), rfl⟩
  · refine ⟨⟨k + 1, hk', (by rw [et]; exact all_snoc hx h)⟩, ?_, ?_⟩
    · repeat' (first | refine fitE_ls rfl rfl ?_ | refine fitC_ls rfl ?_ | exact congrArg I e | refine And.intro ?_ ?_ | exact True.intro | rfl | exact ⟨_, _, rfl, rfl⟩ | exact ⟨_, _, rfl⟩ | decide | (simp [St.get, St.obj, look, lookD, unI, List.map_take]; done))
    · dsimp only; omega
theorem f97_ok (l : List Claim) (g : Nat) (p : Claim → Bool) (hg : ∀ x, C g [.agg (encC x)] (bval (p x))) : C 97 [encCs l, .fn g []] (bval (l.any p)) := by
  refine fn_ok (G := G) tabOK hm D0 Tryz.func97 rfl (by kernel_rfl) (by kernel_rfl) rfl rfl ?_
  repeat (first | refine And.intro (by rfl) ?_ | refine litA ?_ | refine litB ?_ | refine litC ?_ | refine litD ?_ | refine And.intro trivial ?_ | refine And.intro (keptI (by repeat' (first | refine And.intro ?_ ?_ | exact True.intro | rfl | (simp; done)))) ?_)
  refine ⟨_, _, f178_ok l g p hg, rfl, rfl, trivial, ?_⟩
  repeat (first | refine And.intro (by rfl) ?_ | refine litA ?_ | refine litB ?_ | refine litC ?_ | refine litD ?_ | refine And.intro trivial ?_ | refine And.intro (keptI (by repeat' (first | refine And.intro ?_ ?_ | exact True.intro | rfl | (simp; done)))) ?_)
  exact ⟨subB (idxOf_nonneg p l), rfl⟩
theorem f178r_ok (l : List Claim) (g : Nat) (cs : List PV) (p : Claim → Bool) (hg : ∀ x, C g [.agg (encC x), .rp cs] (bval (p x))) : C 178 [encCs l, .fn g [.rp cs]] (I (idxOf p l)) := by
  refine fn_real (G := G) tabOK hm D0 Tryz.func178 rfl (by kernel_rfl) (by kernel_rfl) rfl rfl fun hr => ?_
  have hlen := lenC (l := l) hr (by simp)
  repeat (first | refine And.intro (by rfl) ?_ | refine litA ?_ | refine litB ?_ | refine litC ?_ | refine litD ?_ | refine And.intro trivial ?_ | refine And.intro (keptI (by repeat' (first | refine And.intro ?_ ?_ | exact True.intro | rfl | (simp; done)))) ?_)
  refine loop_ok (G := G) tabOK hm D0 (α := {k : Nat // k ≤ l.length ∧ ∀ y ∈ l.take k, p y = false}) (fun k => ⟨19, [(8, I k.1), (7, I (l.map encC).length), (6, encCs l), (0, encCs l), (1, .fn g [.rp cs])], []⟩) (fun k => l.length - k.1) (by kernel_rfl) ⟨0, Nat.zero_le _, by first | rfl | simp⟩ ?_ ?_
  · repeat' (first | refine fitE_ls rfl rfl ?_ | refine fitC_ls rfl ?_ | refine And.intro ?_ ?_ | exact True.intro | rfl | exact ⟨_, _, rfl, rfl⟩ | exact ⟨_, _, rfl⟩ | decide | (simp [St.get, St.obj, look, lookD, unI, List.map_take]; done))
  rintro ⟨k, hk, hx⟩
  repeat (first | refine And.intro (by rfl) ?_ | refine litA ?_ | refine litB ?_ | refine litC ?_ | refine litD ?_ | refine And.intro trivial ?_ | refine And.intro (keptI (by repeat' (first | refine And.intro ?_ ?_ | exact True.intro | rfl | (simp; done)))) ?_)
  refine And.intro (fun h => ?_) (fun h => ?_)
  rotate_left
  · have hl : l.length ≤ k := by simpa using h
    repeat (first | refine And.intro (by rfl) ?_ | refine litA ?_ | refine litB ?_ | refine litC ?_ | refine litD ?_ | refine And.intro trivial ?_ | refine And.intro (keptI (by repeat' (first | refine And.intro ?_ ?_ | exact True.intro | rfl | (simp; done)))) ?_)
    have ek : l.take k = l := List.take_of_length_le hl
    try rw [ek] at hx
    exact ⟨subI (by rw [idxOf, List.findIdx?_eq_none_iff.2 (by simpa using hx)]), rfl⟩
  have hk' : k < l.length := by simpa using h
  obtain ⟨y, hy⟩ : ∃ y, l[k]? = some y := ⟨_, List.getElem?_eq_getElem hk'⟩
  have e : IntKind.i64.wrap ((k : Int) + 1) = ((k + 1 : Nat) : Int) := by rw [wrap_id] <;> omega
  have et : l.take (k + 1) = l.take k ++ [y] := by rw [List.take_add_one, hy]; rfl
  repeat (first | refine And.intro (by rfl) ?_ | refine litA ?_ | refine litB ?_ | refine litC ?_ | refine litD ?_ | refine And.intro trivial ?_ | refine And.intro (keptI (by repeat' (first | refine And.intro ?_ ?_ | exact True.intro | rfl | (simp; done)))) ?_)
  refine ⟨by simp, encC y, by simp [hy], ?_⟩
  repeat (first | refine And.intro (by rfl) ?_ | refine litA ?_ | refine litB ?_ | refine litC ?_ | refine litD ?_ | refine And.intro trivial ?_ | refine And.intro (keptI (by repeat' (first | refine And.intro ?_ ?_ | exact True.intro | rfl | (simp; done)))) ?_)
  refine ⟨_, _, hg y, rfl, rfl, trivial, ?_⟩
  repeat' (first | refine And.intro (by rfl) ?_ | refine litA ?_ | refine litB ?_ | refine litC ?_ | refine litD ?_ | refine And.intro trivial ?_ | refine And.intro (keptI (by repeat' (first | refine And.intro ?_ ?_ | exact True.intro | rfl | (simp; done)))) ?_ | (refine And.intro ?_ ?_ <;> intro h))
  · exact ⟨subI (by rw [idxOf, findIdx_at hx hy h]), rfl⟩
  · refine ⟨⟨k + 1, hk', (by rw [et]; exact all_snoc hx h)⟩, ?_, ?_⟩
    · repeat' (first | refine fitE_ls rfl rfl ?_ | refine fitC_ls rfl ?_ | exact congrArg I e | refine And.intro ?_ ?_ | exact True.intro | rfl | exact ⟨_, _, rfl, rfl⟩ | exact ⟨_, _, rfl⟩ | decide | (simp [St.get, St.obj, look, lookD, unI, List.map_take]; done))
    · dsimp only; omega
theorem f97r_ok (l : List Claim) (g : Nat) (cs : List PV) (p : Claim → Bool) (hg : ∀ x, C g [.agg (encC x), .rp cs] (bval (p x))) : C 97 [encCs l, .fn g [.rp cs]] (bval (l.any p)) := by
  refine fn_ok (G := G) tabOK hm D0 Tryz.func97 rfl (by kernel_rfl) (by kernel_rfl) rfl rfl ?_
  repeat (first | refine And.intro (by rfl) ?_ | refine litA ?_ | refine litB ?_ | refine litC ?_ | refine litD ?_ | refine And.intro trivial ?_ | refine And.intro (keptI (by repeat' (first | refine And.intro ?_ ?_ | exact True.intro | rfl | (simp; done)))) ?_)
  refine ⟨_, _, f178r_ok l g cs p hg, rfl, rfl, trivial, ?_⟩
  repeat (first | refine And.intro (by rfl) ?_ | refine litA ?_ | refine litB ?_ | refine litC ?_ | refine litD ?_ | refine And.intro trivial ?_ | refine And.intro (keptI (by repeat' (first | refine And.intro ?_ ?_ | exact True.intro | rfl | (simp; done)))) ?_)
  exact ⟨subB (idxOf_nonneg p l), rfl⟩
set_option maxRecDepth 10000
theorem f226_ok (l : List Claim) (x : Claim) : C 226 [encCs l, .agg (encC x)] (I (idxOf (fun y => decide (x = y)) l)) := by
  refine fn_real (G := G) tabOK hm pl226 Tryz.func226 rfl (by kernel_rfl) (by kernel_rfl) rfl rfl fun hr => ?_
  have hlen := lenC (l := l) hr (by simp)
  repeat (first | refine And.intro (by rfl) ?_ | refine litA ?_ | refine litB ?_ | refine litC ?_ | refine litD ?_ | refine And.intro trivial ?_ | refine And.intro (keptI (by repeat' (first | refine And.intro ?_ ?_ | exact True.intro | rfl | (simp; done)))) ?_)
  refine loop_ok (G := G) tabOK hm pl226 (α := {k : Nat // k ≤ l.length ∧ ∀ y ∈ l.take k, decide (x = y) = false}) (fun k => ⟨19, [(8, I k.1), (7, I (l.map encC).length), (6, encCs l), (0, encCs l), (3, .loc 4000 0)], [(4000, .box (encC x) false)]⟩) (fun k => l.length - k.1) (by kernel_rfl) ⟨0, Nat.zero_le _, by first | rfl | simp⟩ ?_ ?_
  · repeat' (first | refine fitE_ls rfl rfl ?_ | refine fitC_ls rfl ?_ | refine And.intro ?_ ?_ | exact True.intro | rfl | exact ⟨_, _, rfl, rfl⟩ | exact ⟨_, _, rfl⟩ | decide | (simp [St.get, St.obj, look, lookD, unI, List.map_take]; done))
  rintro ⟨k, hk, hx⟩
  repeat (first | refine And.intro (by rfl) ?_ | refine litA ?_ | refine litB ?_ | refine litC ?_ | refine litD ?_ | refine And.intro trivial ?_ | refine And.intro (keptI (by repeat' (first | refine And.intro ?_ ?_ | exact True.intro | rfl | (simp; done)))) ?_)
  refine And.intro (fun h => ?_) (fun h => ?_)
  rotate_left
  · have hl : l.length ≤ k := by simpa using h
    repeat (first | refine And.intro (by rfl) ?_ | refine litA ?_ | refine litB ?_ | refine litC ?_ | refine litD ?_ | refine And.intro trivial ?_ | refine And.intro (keptI (by repeat' (first | refine And.intro ?_ ?_ | exact True.intro | rfl | (simp; done)))) ?_)
    have ek : l.take k = l := List.take_of_length_le hl
    try rw [ek] at hx
    exact ⟨subI (by rw [idxOf, List.findIdx?_eq_none_iff.2 (by simpa using hx)]), rfl⟩
  have hk' : k < l.length := by simpa using h
  obtain ⟨y, hy⟩ : ∃ y, l[k]? = some y := ⟨_, List.getElem?_eq_getElem hk'⟩
  have e : IntKind.i64.wrap ((k : Int) + 1) = ((k + 1 : Nat) : Int) := by rw [wrap_id] <;> omega
  have et : l.take (k + 1) = l.take k ++ [y] := by rw [List.take_add_one, hy]; rfl
  repeat (first | refine And.intro (by rfl) ?_ | refine litA ?_ | refine litB ?_ | refine litC ?_ | refine litD ?_ | refine And.intro trivial ?_ | refine And.intro (keptI (by repeat' (first | refine And.intro ?_ ?_ | exact True.intro | rfl | (simp; done)))) ?_)
  refine ⟨by simp, encC y, by simp [hy], ?_⟩
  repeat' (first | refine And.intro (by rfl) ?_ | refine litA ?_ | refine litB ?_ | refine litC ?_ | refine litD ?_ | refine And.intro trivial ?_ | refine And.intro (keptI (by repeat' (first | refine And.intro ?_ ?_ | exact True.intro | rfl | (simp; done)))) ?_ | (refine And.intro ?_ ?_ <;> intro h))
  · exact ⟨subI (by rw [idxOf, findIdx_at hx hy ((eqC x y).symm.trans h)]), rfl⟩
  · refine ⟨⟨k + 1, hk', (by rw [et]; exact all_snoc hx ((eqC x y).symm.trans h))⟩, ?_, ?_⟩
    · repeat' (first | refine fitE_ls rfl rfl ?_ | refine fitC_ls rfl ?_ | exact congrArg I e | refine And.intro ?_ ?_ | exact True.intro | rfl | exact ⟨_, _, rfl, rfl⟩ | exact ⟨_, _, rfl⟩ | decide | (simp [St.get, St.obj, look, lookD, unI, List.map_take]; done))
    · dsimp only; omega
theorem any_eq (l : List Claim) (x : Claim) : l.any (fun y => decide (x = y)) = decide (x ∈ l) := by
  rw [Bool.eq_iff_iff]; simp [List.any_eq_true]
theorem f179_ok (l : List Claim) (x : Claim) : C 179 [encCs l, .agg (encC x)] (bval (decide (x ∈ l))) := by
  refine fn_ok (G := G) tabOK hm D0 Tryz.func179 rfl (by kernel_rfl) (by kernel_rfl) rfl rfl ?_
  repeat (first | refine And.intro (by rfl) ?_ | refine litA ?_ | refine litB ?_ | refine litC ?_ | refine litD ?_ | refine And.intro trivial ?_ | refine And.intro (keptI (by repeat' (first | refine And.intro ?_ ?_ | exact True.intro | rfl | (simp; done)))) ?_)
  refine ⟨_, _, f226_ok l x, rfl, rfl, trivial, ?_⟩
  repeat (first | refine And.intro (by rfl) ?_ | refine litA ?_ | refine litB ?_ | refine litC ?_ | refine litD ?_ | refine And.intro trivial ?_ | refine And.intro (keptI (by repeat' (first | refine And.intro ?_ ?_ | exact True.intro | rfl | (simp; done)))) ?_)
  exact ⟨subB ((idxOf_nonneg _ l).trans (any_eq l x)), rfl⟩
theorem f98_ok (l : List Claim) (x : Claim) : C 98 [encCs l, .agg (encC x)] (bval (decide (x ∈ l))) := by
  refine fn_ok (G := G) tabOK hm D0 Tryz.func98 rfl (by kernel_rfl) (by kernel_rfl) rfl rfl ?_
  repeat (first | refine And.intro (by rfl) ?_ | refine litA ?_ | refine litB ?_ | refine litC ?_ | refine litD ?_ | refine And.intro trivial ?_ | refine And.intro (keptI (by repeat' (first | refine And.intro ?_ ?_ | exact True.intro | rfl | (simp; done)))) ?_)
  refine ⟨_, _, f179_ok l x, rfl, rfl, trivial, ?_⟩
  repeat (first | refine And.intro (by rfl) ?_ | refine litA ?_ | refine litB ?_ | refine litC ?_ | refine litD ?_ | refine And.intro trivial ?_ | refine And.intro (keptI (by repeat' (first | refine And.intro ?_ ?_ | exact True.intro | rfl | (simp; done)))) ?_)
  exact ⟨subB rfl, rfl⟩
theorem f30_ok (l : List Claim) (x : Claim) : C 30 [encCs l, .agg (encC x)] (bval (decide (x ∈ l))) := by
  refine fn_real (G := G) tabOK hm D0 Tryz.func30 rfl (by kernel_rfl) (by kernel_rfl) rfl rfl fun hr => ?_
  have hlen := lenC (l := l) hr (by simp)
  repeat (first | refine And.intro (by rfl) ?_ | refine litA ?_ | refine litB ?_ | refine litC ?_ | refine litD ?_ | refine And.intro trivial ?_ | refine And.intro (keptI (by repeat' (first | refine And.intro ?_ ?_ | exact True.intro | rfl | (simp; done)))) ?_)
  refine loop_ok (G := G) tabOK hm D0 (α := {k : Nat // k ≤ l.length ∧ ∀ y ∈ l.take k, decide (x = y) = false}) (fun k => ⟨17, [(9, I k.1), (8, I (l.map encC).length), (7, encCs l), (3, .loc 4000 0)], [(4000, .box (encC x) false)]⟩) (fun k => l.length - k.1) (by kernel_rfl) ⟨0, Nat.zero_le _, by first | rfl | simp⟩ ?_ ?_
  · repeat' (first | refine fitE_ls rfl rfl ?_ | refine fitC_ls rfl ?_ | refine And.intro ?_ ?_ | exact True.intro | rfl | exact ⟨_, _, rfl, rfl⟩ | exact ⟨_, _, rfl⟩ | decide | (simp [St.get, St.obj, look, lookD, unI, List.map_take]; done))
  rintro ⟨k, hk, hx⟩
  repeat (first | refine And.intro (by rfl) ?_ | refine litA ?_ | refine litB ?_ | refine litC ?_ | refine litD ?_ | refine And.intro trivial ?_ | refine And.intro (keptI (by repeat' (first | refine And.intro ?_ ?_ | exact True.intro | rfl | (simp; done)))) ?_)
  refine And.intro (fun h => ?_) (fun h => ?_)
  rotate_left
  · have hl : l.length ≤ k := by simpa using h
    repeat (first | refine And.intro (by rfl) ?_ | refine litA ?_ | refine litB ?_ | refine litC ?_ | refine litD ?_ | refine And.intro trivial ?_ | refine And.intro (keptI (by repeat' (first | refine And.intro ?_ ?_ | exact True.intro | rfl | (simp; done)))) ?_)
    have ek : l.take k = l := List.take_of_length_le hl
    try rw [ek] at hx
    exact ⟨subB (by simp at hx; simp; exact fun h => hx x h rfl), rfl⟩
  have hk' : k < l.length := by simpa using h
  obtain ⟨y, hy⟩ : ∃ y, l[k]? = some y := ⟨_, List.getElem?_eq_getElem hk'⟩
  have e : IntKind.i64.wrap ((k : Int) + 1) = ((k + 1 : Nat) : Int) := by rw [wrap_id] <;> omega
  have et : l.take (k + 1) = l.take k ++ [y] := by rw [List.take_add_one, hy]; rfl
  repeat (first | refine And.intro (by rfl) ?_ | refine litA ?_ | refine litB ?_ | refine litC ?_ | refine litD ?_ | refine And.intro trivial ?_ | refine And.intro (keptI (by repeat' (first | refine And.intro ?_ ?_ | exact True.intro | rfl | (simp; done)))) ?_)
  refine ⟨by simp, encC y, by simp [hy], ?_⟩
  repeat' (first | refine And.intro (by rfl) ?_ | refine litA ?_ | refine litB ?_ | refine litC ?_ | refine litD ?_ | refine And.intro trivial ?_ | refine And.intro (keptI (by repeat' (first | refine And.intro ?_ ?_ | exact True.intro | rfl | (simp; done)))) ?_ | (refine And.intro ?_ ?_ <;> intro h))
  · exact ⟨subB (by have h := of_decide_eq_true ((eqC x y).symm.trans h); subst h; simp [List.mem_of_getElem? hy]), rfl⟩
  · refine ⟨⟨k + 1, hk', (by rw [et]; exact all_snoc hx ((eqC x y).symm.trans h))⟩, ?_, ?_⟩
    · repeat' (first | refine fitE_ls rfl rfl ?_ | refine fitC_ls rfl ?_ | exact congrArg I e | refine And.intro ?_ ?_ | exact True.intro | rfl | exact ⟨_, _, rfl, rfl⟩ | exact ⟨_, _, rfl⟩ | decide | (simp [St.get, St.obj, look, lookD, unI, List.map_take]; done))
    · dsimp only; omega
def cmpC (a b : Claim) : Int := if a = b then 0 else if a.topic < b.topic ∨ a.topic = b.topic ∧ a.value < b.value then -1 else 1
theorem orI_cmp (a b : Claim) : orI [cmpI a.topic b.topic, cmpI a.value b.value] = cmpC a b := by
  cases a; cases b
  simp only [orI, cmpI, cmpC, Claim.mk.injEq]
  repeat' split
  all_goals simp_all [List.find?]
  all_goals omega
theorem f193_ok (a b : Claim) : C 193 [.agg (encC a), .agg (encC b)] (I (cmpC a b)) := by
  refine fn_ok (G := G) tabOK hm pl193 Tryz.func193 rfl (by kernel_rfl) (by kernel_rfl) rfl rfl ?_
  repeat (first | refine And.intro (by rfl) ?_ | refine litA ?_ | refine litB ?_ | refine litC ?_ | refine litD ?_ | refine And.intro trivial ?_ | refine And.intro (keptI (by repeat' (first | refine And.intro ?_ ?_ | exact True.intro | rfl | (simp; done)))) ?_)
  refine ⟨_, _, f105_ok a.topic b.topic, rfl, rfl, trivial, ?_⟩
  repeat (first | refine And.intro (by rfl) ?_ | refine litA ?_ | refine litB ?_ | refine litC ?_ | refine litD ?_ | refine And.intro trivial ?_ | refine And.intro (keptI (by repeat' (first | refine And.intro ?_ ?_ | exact True.intro | rfl | (simp; done)))) ?_)
  refine ⟨_, _, f105_ok a.value b.value, rfl, rfl, trivial, ?_⟩
  repeat (first | refine And.intro (by rfl) ?_ | refine litA ?_ | refine litB ?_ | refine litC ?_ | refine litD ?_ | refine And.intro trivial ?_ | refine And.intro (keptI (by repeat' (first | refine And.intro ?_ ?_ | exact True.intro | rfl | (simp; done)))) ?_)
  refine ⟨_, _, f169_ok [cmpI a.topic b.topic, cmpI a.value b.value], rfl, rfl, trivial, ?_⟩
  repeat (first | refine And.intro (by rfl) ?_ | refine litA ?_ | refine litB ?_ | refine litC ?_ | refine litD ?_ | refine And.intro trivial ?_ | refine And.intro (keptI (by repeat' (first | refine And.intro ?_ ?_ | exact True.intro | rfl | (simp; done)))) ?_)
  exact ⟨subI (orI_cmp a b), rfl⟩
theorem f194_ok (a b : Claim) : C 194 [.agg (encC a), .agg (encC b)] (I (cmpC a b)) := by
  refine fn_ok (G := G) tabOK hm D0 Tryz.func194 rfl (by kernel_rfl) (by kernel_rfl) rfl rfl ?_
  repeat' (first | refine And.intro (by rfl) ?_ | refine litA ?_ | refine litB ?_ | refine litC ?_ | refine litD ?_ | refine And.intro trivial ?_ | refine And.intro (keptI (by repeat' (first | refine And.intro ?_ ?_ | exact True.intro | rfl | (simp; done)))) ?_ | (refine And.intro ?_ ?_ <;> intro h))
  · exact ⟨subI (by have h := of_decide_eq_true ((eqC a b).symm.trans h); simp [cmpC, h]), rfl⟩
  all_goals exact ⟨subI (by simp only [eqC a b] at *; simp at *; simp [cmpC, *]; try omega), rfl⟩
/-! plain lists -/
def plainL : List Claim → Bool
  | [] => true
  | x :: l => x.ok && (match l with | [] => true | y :: _ => decide (cmpC x y < 0)) && plainL l
theorem f20_ok (a b : List Claim) : C 20 [encCs a, encCs b] (bval (decide (a = b))) := by
  refine fn_real (G := G) tabOK hm pl20 Tryz.func20 rfl (by kernel_rfl) (by kernel_rfl) rfl rfl fun hr => ?_
  have hla := lenC (l := a) hr (by simp)
  repeat' (first | refine And.intro (by rfl) ?_ | refine litA ?_ | refine litB ?_ | refine litC ?_ | refine litD ?_ | refine And.intro trivial ?_ | refine And.intro (keptI (by repeat' (first | refine And.intro ?_ ?_ | exact True.intro | rfl | (simp; done)))) ?_ | (refine And.intro ?_ ?_ <;> intro h))
  · exact ⟨subB (by simp at h; simp; intro e; exact h (by rw [e])), rfl⟩
  have hab : a.length = b.length := by simp at h; omega
  refine loop_ok (G := G) tabOK hm pl20 (α := {k : Nat // k ≤ a.length ∧ a.take k = b.take k}) (fun k => ⟨26, [(13, I k.1), (12, I (a.map encC).length), (0, encCs a), (1, encCs b)], []⟩) (fun k => a.length - k.1) (by kernel_rfl) ⟨0, Nat.zero_le _, by first | rfl | simp⟩ ?_ ?_
  · repeat' (first | refine fitE_ls rfl rfl ?_ | refine fitC_ls rfl ?_ | refine And.intro ?_ ?_ | exact True.intro | rfl | exact ⟨_, _, rfl, rfl⟩ | exact ⟨_, _, rfl⟩ | decide | (simp [St.get, St.obj, look, lookD, unI, List.map_take]; done))
  rintro ⟨k, hk, hx⟩
  repeat (first | refine And.intro (by rfl) ?_ | refine litA ?_ | refine litB ?_ | refine litC ?_ | refine litD ?_ | refine And.intro trivial ?_ | refine And.intro (keptI (by repeat' (first | refine And.intro ?_ ?_ | exact True.intro | rfl | (simp; done)))) ?_)
  refine And.intro (fun h => ?_) (fun h => ?_)
  rotate_left
  · have hl : a.length ≤ k := by simpa using h
    repeat (first | refine And.intro (by rfl) ?_ | refine litA ?_ | refine litB ?_ | refine litC ?_ | refine litD ?_ | refine And.intro trivial ?_ | refine And.intro (keptI (by repeat' (first | refine And.intro ?_ ?_ | exact True.intro | rfl | (simp; done)))) ?_)
    have ek : a.take k = a := List.take_of_length_le hl
    try rw [ek] at hx
    exact ⟨subB (by rw [hab] at hl; rw [List.take_of_length_le (by omega)] at hx; simp [hx]), rfl⟩
  have hk' : k < a.length := by simpa using h
  obtain ⟨y, hy⟩ : ∃ y, a[k]? = some y := ⟨_, List.getElem?_eq_getElem hk'⟩
  have e : IntKind.i64.wrap ((k : Int) + 1) = ((k + 1 : Nat) : Int) := by rw [wrap_id] <;> omega
  have et : a.take (k + 1) = a.take k ++ [y] := by rw [List.take_add_one, hy]; rfl
  repeat (first | refine And.intro (by rfl) ?_ | refine litA ?_ | refine litB ?_ | refine litC ?_ | refine litD ?_ | refine And.intro trivial ?_ | refine And.intro (keptI (by repeat' (first | refine And.intro ?_ ?_ | exact True.intro | rfl | (simp; done)))) ?_)
  obtain ⟨z, hz⟩ : ∃ z, b[k]? = some z := ⟨_, List.getElem?_eq_getElem (by omega)⟩
  refine ⟨by simp, encC y, by simp [hy], ?_⟩
  repeat (first | refine And.intro (by rfl) ?_ | refine litA ?_ | refine litB ?_ | refine litC ?_ | refine litD ?_ | refine And.intro trivial ?_ | refine And.intro (keptI (by repeat' (first | refine And.intro ?_ ?_ | exact True.intro | rfl | (simp; done)))) ?_)
  refine ⟨by simp, encC z, by simp [hz], ?_⟩
  repeat' (first | refine And.intro (by rfl) ?_ | refine litA ?_ | refine litB ?_ | refine litC ?_ | refine litD ?_ | refine And.intro trivial ?_ | refine And.intro (keptI (by repeat' (first | refine And.intro ?_ ?_ | exact True.intro | rfl | (simp; done)))) ?_ | (refine And.intro ?_ ?_ <;> intro h))
  · have h : (!decide (y = z)) = true := by rw [← eqC y z]; exact h
    exact ⟨subB (by simp at h; simp; intro e; rw [e] at hy; rw [hy] at hz; exact h (by injection hz)), rfl⟩
  · have h : (!decide (y = z)) = false := by rw [← eqC y z]; exact h
    refine ⟨⟨k + 1, hk', (by rw [et, List.take_add_one, hz, hx]; simp at h; simp [h])⟩, ?_, ?_⟩
    · repeat' (first | refine fitE_ls rfl rfl ?_ | refine fitC_ls rfl ?_ | exact congrArg I e | refine And.intro ?_ ?_ | exact True.intro | rfl | exact ⟨_, _, rfl, rfl⟩ | exact ⟨_, _, rfl⟩ | decide | (simp [St.get, St.obj, look, lookD, unI, List.map_take]; done))
    · dsimp only; omega
set_option maxRecDepth 10000
theorem plainL_cons (x : Claim) (l : List Claim) : plainL (x :: l) = (x.ok && (match l with | [] => true | y :: _ => decide (cmpC x y < 0)) && plainL l) := rfl
theorem plainL_snoc (l : List Claim) (y : Claim) : plainL (l ++ [y]) = (plainL l && y.ok && (match l.getLast? with | none => true | some z => decide (cmpC z y < 0))) := by
  induction l with
  | nil => simp [plainL]
  | cons x l ih =>
    rw [List.cons_append, plainL_cons, plainL_cons, ih]
    cases l with
    | nil => simp [plainL]; cases x.ok <;> cases y.ok <;> simp
    | cons z l => simp [plainL]; cases x.ok <;> cases y.ok <;> simp [Bool.and_assoc]
theorem plainL_prefix (a b : List Claim) (h : plainL (a ++ b) = true) : plainL a = true := by
  induction a with
  | nil => rfl
  | cons x a ih =>
    rw [List.cons_append, plainL_cons] at h
    simp only [Bool.and_eq_true] at h
    rw [plainL_cons, ih h.2, h.1.1]
    cases a with
    | nil => rfl
    | cons z a => simpa using h.1.2
theorem plainL_take {l : List Claim} {k : Nat} (h : plainL (l.take k) = false) : plainL l = false := by
  cases hp : plainL l with
  | false => rfl
  | true =>
    rw [← List.take_append_drop k l] at hp
    rw [plainL_prefix _ _ hp] at h; cases h
theorem last_take {l : List Claim} {k : Nat} {z : Claim} (hk : k < l.length) (h0 : 0 < k) (hz : l[k - 1]? = some z) : (l.take k).getLast? = some z := by
  rw [List.getLast?_eq_getElem?, List.length_take, Nat.min_eq_left (by omega), List.getElem?_take, if_pos (by omega), hz]
theorem f123_ok (l : List Claim) : C 123 [encCs l] (bval (plainL l)) := by
  refine fn_real (G := G) tabOK hm pl123 Tryz.func123 rfl (by kernel_rfl) (by kernel_rfl) rfl rfl fun hr => ?_
  have hlen := lenC (l := l) hr (by simp)
  repeat (first | refine And.intro (by rfl) ?_ | refine litA ?_ | refine litB ?_ | refine litC ?_ | refine litD ?_ | refine And.intro trivial ?_ | refine And.intro (keptI (by repeat' (first | refine And.intro ?_ ?_ | exact True.intro | rfl | (simp; done)))) ?_)
  refine loop_ok (G := G) tabOK hm pl123 (α := {k : Nat // k ≤ l.length ∧ plainL (l.take k) = true}) (fun k => ⟨30, [(7, I k.1), (6, I (l.map encC).length), (5, encCs l), (0, encCs l)], []⟩) (fun k => l.length - k.1) (by kernel_rfl) ⟨0, Nat.zero_le _, by first | rfl | simp⟩ ?_ ?_
  · repeat' (first | refine fitE_ls rfl rfl ?_ | refine fitC_ls rfl ?_ | refine And.intro ?_ ?_ | exact True.intro | rfl | exact ⟨_, _, rfl, rfl⟩ | exact ⟨_, _, rfl⟩ | decide | (simp [St.get, St.obj, look, lookD, unI, List.map_take]; done))
  rintro ⟨k, hk, hx⟩
  repeat (first | refine And.intro (by rfl) ?_ | refine litA ?_ | refine litB ?_ | refine litC ?_ | refine litD ?_ | refine And.intro trivial ?_ | refine And.intro (keptI (by repeat' (first | refine And.intro ?_ ?_ | exact True.intro | rfl | (simp; done)))) ?_)
  refine And.intro (fun h => ?_) (fun h => ?_)
  rotate_left
  · have hl : l.length ≤ k := by simpa using h
    repeat (first | refine And.intro (by rfl) ?_ | refine litA ?_ | refine litB ?_ | refine litC ?_ | refine litD ?_ | refine And.intro trivial ?_ | refine And.intro (keptI (by repeat' (first | refine And.intro ?_ ?_ | exact True.intro | rfl | (simp; done)))) ?_)
    have ek : l.take k = l := List.take_of_length_le hl
    try rw [ek] at hx
    exact ⟨subB hx.symm, rfl⟩
  have hk' : k < l.length := by simpa using h
  obtain ⟨y, hy⟩ : ∃ y, l[k]? = some y := ⟨_, List.getElem?_eq_getElem hk'⟩
  have e : IntKind.i64.wrap ((k : Int) + 1) = ((k + 1 : Nat) : Int) := by rw [wrap_id] <;> omega
  have et : l.take (k + 1) = l.take k ++ [y] := by rw [List.take_add_one, hy]; rfl
  repeat (first | refine And.intro (by rfl) ?_ | refine litA ?_ | refine litB ?_ | refine litC ?_ | refine litD ?_ | refine And.intro trivial ?_ | refine And.intro (keptI (by repeat' (first | refine And.intro ?_ ?_ | exact True.intro | rfl | (simp; done)))) ?_)
  refine ⟨by simp, encC y, by simp [hy], ?_⟩
  repeat (first | refine And.intro (by rfl) ?_ | refine litA ?_ | refine litB ?_ | refine litC ?_ | refine litD ?_ | refine And.intro trivial ?_ | refine And.intro (keptI (by repeat' (first | refine And.intro ?_ ?_ | exact True.intro | rfl | (simp; done)))) ?_)
  refine ⟨_, _, f94_ok y, rfl, rfl, trivial, ?_⟩
  have snoc := plainL_snoc (l.take k) y
  rw [hx, Bool.true_and] at snoc
  repeat' (first | refine And.intro (by rfl) ?_ | refine litA ?_ | refine litB ?_ | refine litC ?_ | refine litD ?_ | refine And.intro trivial ?_ | refine And.intro (keptI (by repeat' (first | refine And.intro ?_ ?_ | exact True.intro | rfl | (simp; done)))) ?_ | (refine And.intro ?_ ?_ <;> intro h))
  · rename_i hok
    simp at hok h
    obtain ⟨z, hz⟩ : ∃ z, l[k - 1]? = some z := ⟨_, List.getElem?_eq_getElem (by omega)⟩
    have e1 : IntKind.i64.wrap ((k : Int) - 1) = ((k - 1 : Nat) : Int) := by rw [wrap_id] <;> omega
    refine ⟨by rw [e1]; omega, encC z, by rw [e1]; simp [hz], ?_⟩
    repeat (first | refine And.intro (by rfl) ?_ | refine litA ?_ | refine litB ?_ | refine litC ?_ | refine litD ?_ | refine And.intro trivial ?_ | refine And.intro (keptI (by repeat' (first | refine And.intro ?_ ?_ | exact True.intro | rfl | (simp; done)))) ?_)
    refine ⟨_, _, f193_ok z y, rfl, rfl, trivial, ?_⟩
    rw [last_take hk' h hz, hok, Bool.true_and, ← et] at snoc
    repeat' (first | refine And.intro (by rfl) ?_ | refine litA ?_ | refine litB ?_ | refine litC ?_ | refine litD ?_ | refine And.intro trivial ?_ | refine And.intro (keptI (by repeat' (first | refine And.intro ?_ ?_ | exact True.intro | rfl | (simp; done)))) ?_ | (refine And.intro ?_ ?_ <;> intro h))
    · exact ⟨subB (by simp at h; rw [plainL_take (k := k + 1) (by rw [snoc]; simp; omega)]), rfl⟩
    · simp at h
      refine ⟨⟨k + 1, hk', (by rw [snoc]; simp; omega)⟩, ?_, ?_⟩
      · repeat' (first | refine fitE_ls rfl rfl ?_ | refine fitC_ls rfl ?_ | exact congrArg I e | refine And.intro ?_ ?_ | exact True.intro | rfl | exact ⟨_, _, rfl, rfl⟩ | exact ⟨_, _, rfl⟩ | decide | (simp [St.get, St.obj, look, lookD, unI, List.map_take]; done))
      · dsimp only; omega
  · rename_i hok
    simp at hok h
    have : k = 0 := by omega
    refine ⟨⟨k + 1, hk', (by subst this; rw [et, snoc, hok]; rfl)⟩, ?_, ?_⟩
    · repeat' (first | refine fitE_ls rfl rfl ?_ | refine fitC_ls rfl ?_ | exact congrArg I e | refine And.intro ?_ ?_ | exact True.intro | rfl | exact ⟨_, _, rfl, rfl⟩ | exact ⟨_, _, rfl⟩ | decide | (simp [St.get, St.obj, look, lookD, unI, List.map_take]; done))
    · dsimp only; omega
  · simp at h
    exact ⟨subB (by rw [plainL_take (k := k + 1) (by rw [et, snoc, h]; rfl)]), rfl⟩
theorem f126_ok (l : List Claim) : C 126 [encCs l] (bval (plainL l)) := by
  refine fn_real (G := G) tabOK hm pl126 Tryz.func126 rfl (by kernel_rfl) (by kernel_rfl) rfl rfl fun hr => ?_
  have hlen := lenC (l := l) hr (by simp)
  repeat (first | refine And.intro (by rfl) ?_ | refine litA ?_ | refine litB ?_ | refine litC ?_ | refine litD ?_ | refine And.intro trivial ?_ | refine And.intro (keptI (by repeat' (first | refine And.intro ?_ ?_ | exact True.intro | rfl | (simp; done)))) ?_)
  refine loop_ok (G := G) tabOK hm pl126 (α := {k : Nat // k ≤ l.length ∧ plainL (l.take k) = true}) (fun k => ⟨30, [(7, I k.1), (6, I (l.map encC).length), (5, encCs l), (0, encCs l)], []⟩) (fun k => l.length - k.1) (by kernel_rfl) ⟨0, Nat.zero_le _, by first | rfl | simp⟩ ?_ ?_
  · repeat' (first | refine fitE_ls rfl rfl ?_ | refine fitC_ls rfl ?_ | refine And.intro ?_ ?_ | exact True.intro | rfl | exact ⟨_, _, rfl, rfl⟩ | exact ⟨_, _, rfl⟩ | decide | (simp [St.get, St.obj, look, lookD, unI, List.map_take]; done))
  rintro ⟨k, hk, hx⟩
  repeat (first | refine And.intro (by rfl) ?_ | refine litA ?_ | refine litB ?_ | refine litC ?_ | refine litD ?_ | refine And.intro trivial ?_ | refine And.intro (keptI (by repeat' (first | refine And.intro ?_ ?_ | exact True.intro | rfl | (simp; done)))) ?_)
  refine And.intro (fun h => ?_) (fun h => ?_)
  rotate_left
  · have hl : l.length ≤ k := by simpa using h
    repeat (first | refine And.intro (by rfl) ?_ | refine litA ?_ | refine litB ?_ | refine litC ?_ | refine litD ?_ | refine And.intro trivial ?_ | refine And.intro (keptI (by repeat' (first | refine And.intro ?_ ?_ | exact True.intro | rfl | (simp; done)))) ?_)
    have ek : l.take k = l := List.take_of_length_le hl
    try rw [ek] at hx
    exact ⟨subB hx.symm, rfl⟩
  have hk' : k < l.length := by simpa using h
  obtain ⟨y, hy⟩ : ∃ y, l[k]? = some y := ⟨_, List.getElem?_eq_getElem hk'⟩
  have e : IntKind.i64.wrap ((k : Int) + 1) = ((k + 1 : Nat) : Int) := by rw [wrap_id] <;> omega
  have et : l.take (k + 1) = l.take k ++ [y] := by rw [List.take_add_one, hy]; rfl
  repeat (first | refine And.intro (by rfl) ?_ | refine litA ?_ | refine litB ?_ | refine litC ?_ | refine litD ?_ | refine And.intro trivial ?_ | refine And.intro (keptI (by repeat' (first | refine And.intro ?_ ?_ | exact True.intro | rfl | (simp; done)))) ?_)
  refine ⟨by simp, encC y, by simp [hy], ?_⟩
  repeat (first | refine And.intro (by rfl) ?_ | refine litA ?_ | refine litB ?_ | refine litC ?_ | refine litD ?_ | refine And.intro trivial ?_ | refine And.intro (keptI (by repeat' (first | refine And.intro ?_ ?_ | exact True.intro | rfl | (simp; done)))) ?_)
  refine ⟨_, _, f132_ok y, rfl, rfl, trivial, ?_⟩
  have snoc := plainL_snoc (l.take k) y
  rw [hx, Bool.true_and] at snoc
  repeat' (first | refine And.intro (by rfl) ?_ | refine litA ?_ | refine litB ?_ | refine litC ?_ | refine litD ?_ | refine And.intro trivial ?_ | refine And.intro (keptI (by repeat' (first | refine And.intro ?_ ?_ | exact True.intro | rfl | (simp; done)))) ?_ | (refine And.intro ?_ ?_ <;> intro h))
  · rename_i hok
    simp at hok h
    obtain ⟨z, hz⟩ : ∃ z, l[k - 1]? = some z := ⟨_, List.getElem?_eq_getElem (by omega)⟩
    have e1 : IntKind.i64.wrap ((k : Int) - 1) = ((k - 1 : Nat) : Int) := by rw [wrap_id] <;> omega
    refine ⟨by rw [e1]; omega, encC z, by rw [e1]; simp [hz], ?_⟩
    repeat (first | refine And.intro (by rfl) ?_ | refine litA ?_ | refine litB ?_ | refine litC ?_ | refine litD ?_ | refine And.intro trivial ?_ | refine And.intro (keptI (by repeat' (first | refine And.intro ?_ ?_ | exact True.intro | rfl | (simp; done)))) ?_)
    refine ⟨_, _, f194_ok z y, rfl, rfl, trivial, ?_⟩
    rw [last_take hk' h hz, hok, Bool.true_and, ← et] at snoc
    repeat' (first | refine And.intro (by rfl) ?_ | refine litA ?_ | refine litB ?_ | refine litC ?_ | refine litD ?_ | refine And.intro trivial ?_ | refine And.intro (keptI (by repeat' (first | refine And.intro ?_ ?_ | exact True.intro | rfl | (simp; done)))) ?_ | (refine And.intro ?_ ?_ <;> intro h))
    · exact ⟨subB (by simp at h; rw [plainL_take (k := k + 1) (by rw [snoc]; simp; omega)]), rfl⟩
    · simp at h
      refine ⟨⟨k + 1, hk', (by rw [snoc]; simp; omega)⟩, ?_, ?_⟩
      · repeat' (first | refine fitE_ls rfl rfl ?_ | refine fitC_ls rfl ?_ | exact congrArg I e | refine And.intro ?_ ?_ | exact True.intro | rfl | exact ⟨_, _, rfl, rfl⟩ | exact ⟨_, _, rfl⟩ | decide | (simp [St.get, St.obj, look, lookD, unI, List.map_take]; done))
      · dsimp only; omega
  · rename_i hok
    simp at hok h
    have : k = 0 := by omega
    refine ⟨⟨k + 1, hk', (by subst this; rw [et, snoc, hok]; rfl)⟩, ?_, ?_⟩
    · repeat' (first | refine fitE_ls rfl rfl ?_ | refine fitC_ls rfl ?_ | exact congrArg I e | refine And.intro ?_ ?_ | exact True.intro | rfl | exact ⟨_, _, rfl, rfl⟩ | exact ⟨_, _, rfl⟩ | decide | (simp [St.get, St.obj, look, lookD, unI, List.map_take]; done))
    · dsimp only; omega
  · simp at h
    exact ⟨subB (by rw [plainL_take (k := k + 1) (by rw [et, snoc, h]; rfl)]), rfl⟩
/-! equality of lists -/
theorem f130_ok (a b : List Claim) : C 130 [encCs a, encCs b] (bval (decide (a = b))) := by
  refine fn_real (G := G) tabOK hm pl130 Tryz.func130 rfl (by kernel_rfl) (by kernel_rfl) rfl rfl fun hr => ?_
  have hla := lenC (l := a) hr (by simp)
  repeat' (first | refine And.intro (by rfl) ?_ | refine litA ?_ | refine litB ?_ | refine litC ?_ | refine litD ?_ | refine And.intro trivial ?_ | refine And.intro (keptI (by repeat' (first | refine And.intro ?_ ?_ | exact True.intro | rfl | (simp; done)))) ?_ | (refine And.intro ?_ ?_ <;> intro h))
  · exact ⟨subB (by simp at h; simp; intro e; exact h (by rw [e])), rfl⟩
  have hab : a.length = b.length := by simp at h; omega
  refine loop_ok (G := G) tabOK hm pl130 (α := {k : Nat // k ≤ a.length ∧ a.take k = b.take k}) (fun k => ⟨26, [(13, I k.1), (12, I (a.map encC).length), (0, encCs a), (1, encCs b)], []⟩) (fun k => a.length - k.1) (by kernel_rfl) ⟨0, Nat.zero_le _, by first | rfl | simp⟩ ?_ ?_
  · repeat' (first | refine fitE_ls rfl rfl ?_ | refine fitC_ls rfl ?_ | refine And.intro ?_ ?_ | exact True.intro | rfl | exact ⟨_, _, rfl, rfl⟩ | exact ⟨_, _, rfl⟩ | decide | (simp [St.get, St.obj, look, lookD, unI, List.map_take]; done))
  rintro ⟨k, hk, hx⟩
  repeat (first | refine And.intro (by rfl) ?_ | refine litA ?_ | refine litB ?_ | refine litC ?_ | refine litD ?_ | refine And.intro trivial ?_ | refine And.intro (keptI (by repeat' (first | refine And.intro ?_ ?_ | exact True.intro | rfl | (simp; done)))) ?_)
  refine And.intro (fun h => ?_) (fun h => ?_)
  rotate_left
  · have hl : a.length ≤ k := by simpa using h
    repeat (first | refine And.intro (by rfl) ?_ | refine litA ?_ | refine litB ?_ | refine litC ?_ | refine litD ?_ | refine And.intro trivial ?_ | refine And.intro (keptI (by repeat' (first | refine And.intro ?_ ?_ | exact True.intro | rfl | (simp; done)))) ?_)
    have ek : a.take k = a := List.take_of_length_le hl
    try rw [ek] at hx
    exact ⟨subB (by rw [hab] at hl; rw [List.take_of_length_le (by omega)] at hx; simp [hx]), rfl⟩
  have hk' : k < a.length := by simpa using h
  obtain ⟨y, hy⟩ : ∃ y, a[k]? = some y := ⟨_, List.getElem?_eq_getElem hk'⟩
  have e : IntKind.i64.wrap ((k : Int) + 1) = ((k + 1 : Nat) : Int) := by rw [wrap_id] <;> omega
  have et : a.take (k + 1) = a.take k ++ [y] := by rw [List.take_add_one, hy]; rfl
  repeat (first | refine And.intro (by rfl) ?_ | refine litA ?_ | refine litB ?_ | refine litC ?_ | refine litD ?_ | refine And.intro trivial ?_ | refine And.intro (keptI (by repeat' (first | refine And.intro ?_ ?_ | exact True.intro | rfl | (simp; done)))) ?_)
  obtain ⟨z, hz⟩ : ∃ z, b[k]? = some z := ⟨_, List.getElem?_eq_getElem (by omega)⟩
  refine ⟨by simp, encC y, by simp [hy], ?_⟩
  repeat (first | refine And.intro (by rfl) ?_ | refine litA ?_ | refine litB ?_ | refine litC ?_ | refine litD ?_ | refine And.intro trivial ?_ | refine And.intro (keptI (by repeat' (first | refine And.intro ?_ ?_ | exact True.intro | rfl | (simp; done)))) ?_)
  refine ⟨by simp, encC z, by simp [hz], ?_⟩
  repeat' (first | refine And.intro (by rfl) ?_ | refine litA ?_ | refine litB ?_ | refine litC ?_ | refine litD ?_ | refine And.intro trivial ?_ | refine And.intro (keptI (by repeat' (first | refine And.intro ?_ ?_ | exact True.intro | rfl | (simp; done)))) ?_ | (refine And.intro ?_ ?_ <;> intro h))
  · have h : (!decide (y = z)) = true := by rw [← eqC y z]; exact h
    exact ⟨subB (by simp at h; simp; intro e; rw [e] at hy; rw [hy] at hz; exact h (by injection hz)), rfl⟩
  · have h : (!decide (y = z)) = false := by rw [← eqC y z]; exact h
    refine ⟨⟨k + 1, hk', (by rw [et, List.take_add_one, hz, hx]; simp at h; simp [h])⟩, ?_, ?_⟩
    · repeat' (first | refine fitE_ls rfl rfl ?_ | refine fitC_ls rfl ?_ | exact congrArg I e | refine And.intro ?_ ?_ | exact True.intro | rfl | exact ⟨_, _, rfl, rfl⟩ | exact ⟨_, _, rfl⟩ | decide | (simp [St.get, St.obj, look, lookD, unI, List.map_take]; done))
    · dsimp only; omega
theorem f190_ok (a b : List Int) : C 190 [encI a, encI b] (bval (decide (a = b))) := by
  refine fn_real (G := G) tabOK hm pl190 Tryz.func190 rfl (by kernel_rfl) (by kernel_rfl) rfl rfl fun hr => ?_
  have hla := lenI (l := a) hr (by simp)
  repeat' (first | refine And.intro (by rfl) ?_ | refine litA ?_ | refine litB ?_ | refine litC ?_ | refine litD ?_ | refine And.intro trivial ?_ | refine And.intro (keptI (by repeat' (first | refine And.intro ?_ ?_ | exact True.intro | rfl | (simp; done)))) ?_ | (refine And.intro ?_ ?_ <;> intro h))
  · exact ⟨subB (by simp at h; simp; intro e; exact h (by rw [e])), rfl⟩
  have hab : a.length = b.length := by simp at h; omega
  refine loop_ok (G := G) tabOK hm pl190 (α := {k : Nat // k ≤ a.length ∧ a.take k = b.take k}) (fun k => ⟨26, [(13, I k.1), (12, I (a.map fun x => [I x]).length), (0, encI a), (1, encI b)], []⟩) (fun k => a.length - k.1) (by kernel_rfl) ⟨0, Nat.zero_le _, by first | rfl | simp⟩ ?_ ?_
  · repeat' (first | refine fitE_ls rfl rfl ?_ | refine fitC_ls rfl ?_ | refine And.intro ?_ ?_ | exact True.intro | rfl | exact ⟨_, _, rfl, rfl⟩ | exact ⟨_, _, rfl⟩ | decide | (simp [St.get, St.obj, look, lookD, unI, List.map_take]; done))
  rintro ⟨k, hk, hx⟩
  repeat (first | refine And.intro (by rfl) ?_ | refine litA ?_ | refine litB ?_ | refine litC ?_ | refine litD ?_ | refine And.intro trivial ?_ | refine And.intro (keptI (by repeat' (first | refine And.intro ?_ ?_ | exact True.intro | rfl | (simp; done)))) ?_)
  refine And.intro (fun h => ?_) (fun h => ?_)
  rotate_left
  · have hl : a.length ≤ k := by simpa using h
    repeat (first | refine And.intro (by rfl) ?_ | refine litA ?_ | refine litB ?_ | refine litC ?_ | refine litD ?_ | refine And.intro trivial ?_ | refine And.intro (keptI (by repeat' (first | refine And.intro ?_ ?_ | exact True.intro | rfl | (simp; done)))) ?_)
    have ek : a.take k = a := List.take_of_length_le hl
    try rw [ek] at hx
    exact ⟨subB (by rw [hab] at hl; rw [List.take_of_length_le (by omega)] at hx; simp [hx]), rfl⟩
  have hk' : k < a.length := by simpa using h
  obtain ⟨y, hy⟩ : ∃ y, a[k]? = some y := ⟨_, List.getElem?_eq_getElem hk'⟩
  have e : IntKind.i64.wrap ((k : Int) + 1) = ((k + 1 : Nat) : Int) := by rw [wrap_id] <;> omega
  have et : a.take (k + 1) = a.take k ++ [y] := by rw [List.take_add_one, hy]; rfl
  repeat (first | refine And.intro (by rfl) ?_ | refine litA ?_ | refine litB ?_ | refine litC ?_ | refine litD ?_ | refine And.intro trivial ?_ | refine And.intro (keptI (by repeat' (first | refine And.intro ?_ ?_ | exact True.intro | rfl | (simp; done)))) ?_)
  obtain ⟨z, hz⟩ : ∃ z, b[k]? = some z := ⟨_, List.getElem?_eq_getElem (by omega)⟩
  refine ⟨by simp, [I y], by simp [hy], ?_⟩
  repeat (first | refine And.intro (by rfl) ?_ | refine litA ?_ | refine litB ?_ | refine litC ?_ | refine litD ?_ | refine And.intro trivial ?_ | refine And.intro (keptI (by repeat' (first | refine And.intro ?_ ?_ | exact True.intro | rfl | (simp; done)))) ?_)
  refine ⟨by simp, [I z], by simp [hz], ?_⟩
  repeat' (first | refine And.intro (by rfl) ?_ | refine litA ?_ | refine litB ?_ | refine litC ?_ | refine litD ?_ | refine And.intro trivial ?_ | refine And.intro (keptI (by repeat' (first | refine And.intro ?_ ?_ | exact True.intro | rfl | (simp; done)))) ?_ | (refine And.intro ?_ ?_ <;> intro h))
  · exact ⟨subB (by simp at h; simp; intro e; rw [e] at hy; rw [hy] at hz; exact h (by injection hz)), rfl⟩
  · refine ⟨⟨k + 1, hk', (by rw [et, List.take_add_one, hz, hx]; simp at h; simp [h])⟩, ?_, ?_⟩
    · repeat' (first | refine fitE_ls rfl rfl ?_ | refine fitC_ls rfl ?_ | exact congrArg I e | refine And.intro ?_ ?_ | exact True.intro | rfl | exact ⟨_, _, rfl, rfl⟩ | exact ⟨_, _, rfl⟩ | decide | (simp [St.get, St.obj, look, lookD, unI, List.map_take]; done))
    · dsimp only; omega
/-! ref17.Consistent, Sorted, Union; kept -/
def consL : List Claim → Bool
  | [] => true
  | x :: l => l.all (fun y => !contra x y) && consL l
theorem contra_comm (a b : Claim) : contra a b = contra b a := by simp [contra, eq_comm]
theorem consL_snoc (l : List Claim) (y : Claim) : consL (l ++ [y]) = (consL l && l.all fun x => !contra y x) := by
  induction l with
  | nil => rfl
  | cons x l ih => simp [consL, ih, contra_comm y x]; cases consL l <;> cases contra x y <;> simp
theorem consL_prefix (a b : List Claim) (h : consL (a ++ b) = true) : consL a = true := by
  induction a with
  | nil => rfl
  | cons x a ih =>
    simp only [List.cons_append, consL, List.all_append, Bool.and_eq_true] at h ⊢
    exact ⟨h.1.1, ih h.2⟩
theorem consL_take {l : List Claim} {k : Nat} (h : consL (l.take k) = false) : consL l = false := by
  cases hp : consL l with
  | false => rfl
  | true =>
    rw [← List.take_append_drop k l] at hp
    rw [consL_prefix _ _ hp] at h; cases h
theorem f109_ok (l : List Claim) : C 109 [encCs l] (bval (consL l)) := by
  refine fn_real (G := G) tabOK hm D0 Tryz.func109 rfl (by kernel_rfl) (by kernel_rfl) rfl rfl fun hr => ?_
  have hlen := lenC (l := l) hr (by simp)
  repeat (first | refine And.intro (by rfl) ?_ | refine litA ?_ | refine litB ?_ | refine litC ?_ | refine litD ?_ | refine And.intro trivial ?_ | refine And.intro (keptI (by repeat' (first | refine And.intro ?_ ?_ | exact True.intro | rfl | (simp; done)))) ?_)
  refine loop_ok (G := G) tabOK hm D0 (α := {k : Nat // k ≤ l.length ∧ consL (l.take k) = true}) (fun k => ⟨27, [(9, I k.1), (8, I (l.map encC).length), (7, encCs l), (0, encCs l)], []⟩) (fun k => l.length - k.1) (by kernel_rfl) ⟨0, Nat.zero_le _, by first | rfl | simp⟩ ?_ ?_
  · repeat' (first | refine fitE_ls rfl rfl ?_ | refine fitC_ls rfl ?_ | refine And.intro ?_ ?_ | exact True.intro | rfl | exact ⟨_, _, rfl, rfl⟩ | exact ⟨_, _, rfl⟩ | decide | (simp [St.get, St.obj, look, lookD, unI, List.map_take]; done))
  rintro ⟨k, hk, hx⟩
  repeat (first | refine And.intro (by rfl) ?_ | refine litA ?_ | refine litB ?_ | refine litC ?_ | refine litD ?_ | refine And.intro trivial ?_ | refine And.intro (keptI (by repeat' (first | refine And.intro ?_ ?_ | exact True.intro | rfl | (simp; done)))) ?_)
  refine And.intro (fun h => ?_) (fun h => ?_)
  rotate_left
  · have hl : l.length ≤ k := by simpa using h
    repeat (first | refine And.intro (by rfl) ?_ | refine litA ?_ | refine litB ?_ | refine litC ?_ | refine litD ?_ | refine And.intro trivial ?_ | refine And.intro (keptI (by repeat' (first | refine And.intro ?_ ?_ | exact True.intro | rfl | (simp; done)))) ?_)
    have ek : l.take k = l := List.take_of_length_le hl
    try rw [ek] at hx
    exact ⟨subB hx.symm, rfl⟩
  have hk' : k < l.length := by simpa using h
  obtain ⟨y, hy⟩ : ∃ y, l[k]? = some y := ⟨_, List.getElem?_eq_getElem hk'⟩
  have e : IntKind.i64.wrap ((k : Int) + 1) = ((k + 1 : Nat) : Int) := by rw [wrap_id] <;> omega
  have et : l.take (k + 1) = l.take k ++ [y] := by rw [List.take_add_one, hy]; rfl
  repeat (first | refine And.intro (by rfl) ?_ | refine litA ?_ | refine litB ?_ | refine litC ?_ | refine litD ?_ | refine And.intro trivial ?_ | refine And.intro (keptI (by repeat' (first | refine And.intro ?_ ?_ | exact True.intro | rfl | (simp; done)))) ?_)
  refine ⟨by simp, encC y, by simp [hy], ?_⟩
  have snoc := consL_snoc (l.take k) y
  rw [hx, Bool.true_and, ← et] at snoc
  repeat (first | refine And.intro (by rfl) ?_ | refine litA ?_ | refine litB ?_ | refine litC ?_ | refine litD ?_ | refine And.intro trivial ?_ | refine And.intro (keptI (by repeat' (first | refine And.intro ?_ ?_ | exact True.intro | rfl | (simp; done)))) ?_)
  refine ⟨by decide, by simp, by simp; omega, ?_⟩
  repeat (first | refine And.intro (by rfl) ?_ | refine litA ?_ | refine litB ?_ | refine litC ?_ | refine litD ?_ | refine And.intro trivial ?_ | refine And.intro (keptI (by repeat' (first | refine And.intro ?_ ?_ | exact True.intro | rfl | (simp; done)))) ?_)
  have es : List.drop (Int.toNat 0) (List.take (Int.toNat (k : Int)) (l.map encC)) = (l.take k).map encC := by simp [List.map_take]
  have hlk : (l.take k).length ≤ l.length := by simp; omega
  refine loop_ok (G := G) tabOK hm D0 (α := {j : Nat // j ≤ (l.take k).length ∧ ∀ z ∈ (l.take k).take j, contra y z = false}) (fun j => ⟨27, [(18, I j.1), (17, I ((l.take k).map encC).length), (16, encCs (l.take k)), (4, .loc 5000 0), (9, I k), (8, I (l.map encC).length), (7, encCs l), (0, encCs l)], [(5000, .box (encC y) false)]⟩) (fun j => (l.take k).length - j.1) (by kernel_rfl) ⟨0, Nat.zero_le _, by first | rfl | simp⟩ ?_ ?_
  · repeat' (first | refine fitE_ls rfl rfl ?_ | refine fitC_ls rfl ?_ | exact congrArg (PV.sl none 2) es | exact congrArg (fun m : List (List PV) => I (m.length : Nat)) es | refine And.intro ?_ ?_ | exact True.intro | rfl | exact ⟨_, _, rfl, rfl⟩ | exact ⟨_, _, rfl⟩ | decide | (simp [St.get, St.obj, look, lookD, unI, List.map_take]; done))
  rintro ⟨j, hj, hx2⟩
  repeat (first | refine And.intro (by rfl) ?_ | refine litA ?_ | refine litB ?_ | refine litC ?_ | refine litD ?_ | refine And.intro trivial ?_ | refine And.intro (keptI (by repeat' (first | refine And.intro ?_ ?_ | exact True.intro | rfl | (simp; done)))) ?_)
  refine And.intro (fun h => ?_) (fun h => ?_)
  rotate_left
  · have hl2 : (l.take k).length ≤ j := by simpa using h
    repeat (first | refine And.intro (by rfl) ?_ | refine litA ?_ | refine litB ?_ | refine litC ?_ | refine litD ?_ | refine And.intro trivial ?_ | refine And.intro (keptI (by repeat' (first | refine And.intro ?_ ?_ | exact True.intro | rfl | (simp; done)))) ?_)
    have ek2 : (l.take k).take j = (l.take k) := List.take_of_length_le hl2
    try rw [ek2] at hx2
    refine ⟨⟨k + 1, hk', (by rw [snoc]; simpa using hx2)⟩, ?_, ?_⟩
    · repeat' (first | refine fitE_ls rfl rfl ?_ | refine fitC_ls rfl ?_ | exact congrArg I e | refine And.intro ?_ ?_ | exact True.intro | rfl | exact ⟨_, _, rfl, rfl⟩ | exact ⟨_, _, rfl⟩ | decide | (simp [St.get, St.obj, look, lookD, unI, List.map_take]; done))
    · dsimp only; omega
  have hj' : j < (l.take k).length := by simpa using h
  obtain ⟨z, hz⟩ : ∃ z, (l.take k)[j]? = some z := ⟨_, List.getElem?_eq_getElem hj'⟩
  have e2 : IntKind.i64.wrap ((j : Int) + 1) = ((j + 1 : Nat) : Int) := by rw [wrap_id] <;> omega
  have et2 : (l.take k).take (j + 1) = (l.take k).take j ++ [z] := by rw [List.take_add_one, hz]; rfl
  repeat (first | refine And.intro (by rfl) ?_ | refine litA ?_ | refine litB ?_ | refine litC ?_ | refine litD ?_ | refine And.intro trivial ?_ | refine And.intro (keptI (by repeat' (first | refine And.intro ?_ ?_ | exact True.intro | rfl | (simp; done)))) ?_)
  refine ⟨by simp, encC z, by simp only [Int.toNat_natCast, List.getElem?_map, hz]; rfl, ?_⟩
  repeat (first | refine And.intro (by rfl) ?_ | refine litA ?_ | refine litB ?_ | refine litC ?_ | refine litD ?_ | refine And.intro trivial ?_ | refine And.intro (keptI (by repeat' (first | refine And.intro ?_ ?_ | exact True.intro | rfl | (simp; done)))) ?_)
  refine ⟨_, _, f112_ok y z, rfl, rfl, trivial, ?_⟩
  repeat' (first | refine And.intro (by rfl) ?_ | refine litA ?_ | refine litB ?_ | refine litC ?_ | refine litD ?_ | refine And.intro trivial ?_ | refine And.intro (keptI (by repeat' (first | refine And.intro ?_ ?_ | exact True.intro | rfl | (simp; done)))) ?_ | (refine And.intro ?_ ?_ <;> intro h))
  · refine ⟨subB ?_, rfl⟩
    rw [consL_take (k := k + 1)]
    rw [snoc, Bool.eq_false_iff]
    intro hall
    have := List.all_eq_true.1 hall z (List.mem_of_getElem? hz)
    rw [h] at this
    cases this
  · refine ⟨⟨j + 1, hj', (by rw [et2]; exact all_snoc hx2 h)⟩, ?_, ?_⟩
    · repeat' (first | refine fitE_ls rfl rfl ?_ | refine fitC_ls rfl ?_ | exact congrArg I e2 | refine And.intro ?_ ?_ | exact True.intro | rfl | exact ⟨_, _, rfl, rfl⟩ | exact ⟨_, _, rfl⟩ | decide | (simp [St.get, St.obj, look, lookD, unI, List.map_take]; done))
    · dsimp only; omega
set_option maxRecDepth 10000
/-- All claims, ascending. -/
def allC : List Claim := (List.range 128).map fun n => ⟨(n / 16 : Nat), (n % 16 : Nat)⟩
def sortC (l : List Claim) : List Claim := allC.filter fun x => decide (x ∈ l)
def outC (l : List Claim) (i k : Nat) : List Claim := (allC.take (16 * i + k)).filter fun x => decide (x ∈ l)
theorem allC_get {i k : Nat} (hi : i < 8) (hk : k < 16) : allC[16 * i + k]? = some ⟨i, k⟩ := by
  have h : 16 * i + k < 128 := by omega
  simp only [allC, List.getElem?_map, List.getElem?_range h, Option.map_some, Option.some.injEq, Claim.mk.injEq, Int.natCast_inj]
  omega
theorem outC_succ (l : List Claim) {i k : Nat} (hi : i < 8) (hk : k < 16) : outC l i (k + 1) = outC l i k ++ if (⟨i, k⟩ : Claim) ∈ l then [⟨i, k⟩] else [] := by
  unfold outC
  rw [← Nat.add_assoc, List.take_add_one, allC_get hi hk, List.filter_append]
  simp [List.filter]
  split <;> simp_all
theorem outC_len (l : List Claim) (i k : Nat) : (outC l i k).length ≤ 128 := by
  unfold outC
  refine Nat.le_trans (List.length_filter_le _ _) ?_
  rw [List.length_take]
  have : allC.length = 128 := by simp [allC]
  omega
theorem outC_next (l : List Claim) (i : Nat) : outC l (i + 1) 0 = outC l i 16 := by
  unfold outC
  rw [show 16 * (i + 1) + 0 = 16 * i + 16 by omega]
theorem outC_end (l : List Claim) : outC l 8 0 = sortC l := by
  unfold outC sortC
  rw [List.take_of_length_le (by simp [allC])]
theorem f23_ok (l : List Claim) : C 23 [encCs l] (encCs (sortC l)) := by
  refine fn_ok (G := G) tabOK hm D0 Tryz.func23 rfl (by kernel_rfl) (by kernel_rfl) rfl rfl ?_
  repeat (first | refine And.intro (by rfl) ?_ | refine litA ?_ | refine litB ?_ | refine litC ?_ | refine litD ?_ | refine And.intro trivial ?_ | refine And.intro (keptI (by repeat' (first | refine And.intro ?_ ?_ | exact True.intro | rfl | (simp; done)))) ?_)
  refine loop_ok (G := G) tabOK hm D0 (α := {i : Nat // i ≤ 8}) (fun i => ⟨26, [(4, I i.1), (3, .ls 25000 (outC l i.1 0).length), (0, encCs l)], [(25000, .row 38 2 ((outC l i.1 0).map encC) false)]⟩) (fun i => 8 - i.1) (by kernel_rfl) ⟨0, by omega⟩ ?_ ?_
  · repeat' (first | refine fitE_ls rfl rfl ?_ | refine fitC_ls rfl ?_ | refine And.intro ?_ ?_ | exact True.intro | rfl | exact ⟨_, _, rfl, rfl⟩ | exact ⟨_, _, rfl⟩ | decide | (simp [St.get, St.obj, look, lookD, unI, List.map_take]; done))
  rintro ⟨i, hi⟩
  repeat (first | refine And.intro (by rfl) ?_ | refine litA ?_ | refine litB ?_ | refine litC ?_ | refine litD ?_ | refine And.intro trivial ?_ | refine And.intro (keptI (by repeat' (first | refine And.intro ?_ ?_ | exact True.intro | rfl | (simp; done)))) ?_)
  refine And.intro (fun h => ?_) (fun h => ?_)
  rotate_left
  · have : i = 8 := by simp at h; omega
    subst this
    repeat (first | refine And.intro (by rfl) ?_ | refine litA ?_ | refine litB ?_ | refine litC ?_ | refine litD ?_ | refine And.intro trivial ?_ | refine And.intro (keptI (by repeat' (first | refine And.intro ?_ ?_ | exact True.intro | rfl | (simp; done)))) ?_)
    exact ⟨by simp, .inl (by rw [outC_end]), rfl⟩
  have hi' : i < 8 := by simp at h; omega
  repeat (first | refine And.intro (by rfl) ?_ | refine litA ?_ | refine litB ?_ | refine litC ?_ | refine litD ?_ | refine And.intro trivial ?_ | refine And.intro (keptI (by repeat' (first | refine And.intro ?_ ?_ | exact True.intro | rfl | (simp; done)))) ?_)
  refine loop_ok (G := G) tabOK hm D0 (α := {k : Nat // k ≤ 16}) (fun k => ⟨26, [(5, I k.1), (4, I i), (3, .ls 25000 (outC l i k.1).length), (0, encCs l)], [(25000, .row 38 2 ((outC l i k.1).map encC) false)]⟩) (fun k => 16 - k.1) (by kernel_rfl) ⟨0, by omega⟩ ?_ ?_
  · repeat' (first | refine fitE_ls rfl rfl ?_ | refine fitC_ls rfl ?_ | refine And.intro ?_ ?_ | exact True.intro | rfl | exact ⟨_, _, rfl, rfl⟩ | exact ⟨_, _, rfl⟩ | decide | (simp [St.get, St.obj, look, lookD, unI, List.map_take]; done))
  rintro ⟨k, hk⟩
  repeat (first | refine And.intro (by rfl) ?_ | refine litA ?_ | refine litB ?_ | refine litC ?_ | refine litD ?_ | refine And.intro trivial ?_ | refine And.intro (keptI (by repeat' (first | refine And.intro ?_ ?_ | exact True.intro | rfl | (simp; done)))) ?_)
  refine And.intro (fun h => ?_) (fun h => ?_)
  rotate_left
  · have : k = 16 := by simp at h; omega
    subst this
    repeat (first | refine And.intro (by rfl) ?_ | refine litA ?_ | refine litB ?_ | refine litC ?_ | refine litD ?_ | refine And.intro trivial ?_ | refine And.intro (keptI (by repeat' (first | refine And.intro ?_ ?_ | exact True.intro | rfl | (simp; done)))) ?_)
    have e : IntKind.i64.wrap ((i : Int) + 1) = ((i + 1 : Nat) : Int) := by rw [wrap_id] <;> omega
    refine ⟨⟨i + 1, hi'⟩, ?_, ?_⟩
    · rw [outC_next]
      repeat' (first | refine fitE_ls rfl rfl ?_ | refine fitC_ls rfl ?_ | exact congrArg I e | refine And.intro ?_ ?_ | exact True.intro | rfl | exact ⟨_, _, rfl, rfl⟩ | exact ⟨_, _, rfl⟩ | decide | (simp [St.get, St.obj, look, lookD, unI, List.map_take]; done))
    · dsimp only; omega
  have hk' : k < 16 := by simp at h; omega
  have e : IntKind.i64.wrap ((k : Int) + 1) = ((k + 1 : Nat) : Int) := by rw [wrap_id] <;> omega
  repeat (first | refine And.intro (by rfl) ?_ | refine litA ?_ | refine litB ?_ | refine litC ?_ | refine litD ?_ | refine And.intro trivial ?_ | refine And.intro (keptI (by repeat' (first | refine And.intro ?_ ?_ | exact True.intro | rfl | (simp; done)))) ?_)
  refine ⟨_, _, f30_ok l ⟨i, k⟩, rfl, rfl, trivial, ?_⟩
  repeat' (first | refine And.intro (by rfl) ?_ | refine litA ?_ | refine litB ?_ | refine litC ?_ | refine litD ?_ | refine And.intro trivial ?_ | refine And.intro (keptI (by repeat' (first | refine And.intro ?_ ?_ | exact True.intro | rfl | (simp; done)))) ?_ | (refine And.intro ?_ ?_ <;> intro h))
  · refine ⟨by simp, by have := outC_len l i k; exact (show (outC l i k).length + 1 ≤ 1073741824 by omega), rfl, ?_⟩
    repeat (first | refine And.intro (by rfl) ?_ | refine litA ?_ | refine litB ?_ | refine litC ?_ | refine litD ?_ | refine And.intro trivial ?_ | refine And.intro (keptI (by repeat' (first | refine And.intro ?_ ?_ | exact True.intro | rfl | (simp; done)))) ?_)
    refine ⟨⟨k + 1, hk'⟩, ?_, ?_⟩
    · dsimp only
      rw [outC_succ l hi' hk', if_pos (by simpa using h)]
      have el : (outC l i k).length + 1 = (outC l i k ++ [(⟨i, k⟩ : Claim)]).length := by simp
      have eo : (outC l i k).map encC ++ [encC ⟨i, k⟩] = (outC l i k ++ [(⟨i, k⟩ : Claim)]).map encC := by simp
      repeat' (first | refine fitE_ls rfl rfl ?_ | refine fitC_ls rfl ?_ | refine fitE_ls (congrArg (PV.ls 25000) el) rfl ?_ | exact congrArg I e | exact congrArg (fun m => Obj.row 38 2 m false) eo | refine And.intro ?_ ?_ | exact True.intro | rfl | exact ⟨_, _, rfl, rfl⟩ | exact ⟨_, _, rfl⟩ | decide | (simp [St.get, St.obj, look, lookD, unI, List.map_take]; done))
    · dsimp only; omega
  · refine ⟨⟨k + 1, hk'⟩, ?_, ?_⟩
    · dsimp only
      rw [outC_succ l hi' hk', if_neg (by simpa using h), List.append_nil]
      repeat' (first | refine fitE_ls rfl rfl ?_ | refine fitC_ls rfl ?_ | exact congrArg I e | refine And.intro ?_ ?_ | exact True.intro | rfl | exact ⟨_, _, rfl, rfl⟩ | exact ⟨_, _, rfl⟩ | decide | (simp [St.get, St.obj, look, lookD, unI, List.map_take]; done))
    · dsimp only; omega
def unionC (a b : List Claim) : List Claim := sortC (a ++ b)
theorem f111_ok (a b : List Claim) (hb : a.length + b.length ≤ 1073741824) : C 111 [encCs a, encCs b] (encCs (unionC a b)) := by
  refine fn_ok (G := G) tabOK hm D0 Tryz.func111 rfl (by kernel_rfl) (by kernel_rfl) rfl rfl ?_
  repeat (first | refine And.intro (by rfl) ?_ | refine litA ?_ | refine litB ?_ | refine litC ?_ | refine litD ?_ | refine And.intro trivial ?_ | refine And.intro (keptI (by repeat' (first | refine And.intro ?_ ?_ | exact True.intro | rfl | (simp; done)))) ?_)
  refine ⟨by simp; omega, rfl, ?_⟩
  repeat (first | refine And.intro (by rfl) ?_ | refine litA ?_ | refine litB ?_ | refine litC ?_ | refine litD ?_ | refine And.intro trivial ?_ | refine And.intro (keptI (by repeat' (first | refine And.intro ?_ ?_ | exact True.intro | rfl | (simp; done)))) ?_)
  refine ⟨by simp [chunks], by simp; omega, rfl, ?_⟩
  repeat (first | refine And.intro (by rfl) ?_ | refine litA ?_ | refine litB ?_ | refine litC ?_ | refine litD ?_ | refine And.intro trivial ?_ | refine And.intro (keptI (by repeat' (first | refine And.intro ?_ ?_ | exact True.intro | rfl | (simp; done)))) ?_)
  have h23 : C 23 [.sl none 2 (a.map encC ++ b.map encC)] (encCs (sortC (a ++ b))) := by have := f23_ok (a ++ b); rwa [encCs, List.map_append] at this
  refine And.intro (by simp [chunks]) ?_
  refine ⟨_, _, h23, rfl, rfl, trivial, ?_⟩
  repeat (first | refine And.intro (by rfl) ?_ | refine litA ?_ | refine litB ?_ | refine litC ?_ | refine litD ?_ | refine And.intro trivial ?_ | refine And.intro (keptI (by repeat' (first | refine And.intro ?_ ?_ | exact True.intro | rfl | (simp; done)))) ?_)
  exact ⟨.inl rfl, rfl⟩
theorem f108_ok (a b : List Claim) (hb : a.length + b.length ≤ 1073741824) : C 108 [encCs a, encCs b] (bval (decide (unionC a b = b))) := by
  refine fn_ok (G := G) tabOK hm D0 Tryz.func108 rfl (by kernel_rfl) (by kernel_rfl) rfl rfl ?_
  repeat (first | refine And.intro (by rfl) ?_ | refine litA ?_ | refine litB ?_ | refine litC ?_ | refine litD ?_ | refine And.intro trivial ?_ | refine And.intro (keptI (by repeat' (first | refine And.intro ?_ ?_ | exact True.intro | rfl | (simp; done)))) ?_)
  refine ⟨_, _, f111_ok a b hb, rfl, rfl, trivial, ?_⟩
  repeat (first | refine And.intro (by rfl) ?_ | refine litA ?_ | refine litB ?_ | refine litC ?_ | refine litD ?_ | refine And.intro trivial ?_ | refine And.intro (keptI (by repeat' (first | refine And.intro ?_ ?_ | exact True.intro | rfl | (simp; done)))) ?_)
  refine ⟨_, _, f20_ok (unionC a b) b, rfl, rfl, trivial, ?_⟩
  repeat (first | refine And.intro (by rfl) ?_ | refine litA ?_ | refine litB ?_ | refine litC ?_ | refine litD ?_ | refine And.intro trivial ?_ | refine And.intro (keptI (by repeat' (first | refine And.intro ?_ ?_ | exact True.intro | rfl | (simp; done)))) ?_)
  exact ⟨subB rfl, rfl⟩
set_option maxRecDepth 10000
inductive Trust where
  | mk (thr : Int) (nodes : List Int) (inner : List Trust)
mutual
def encT : Trust → List PV
  | .mk t n i => [I t, encI n, .sl none 3 (encTs i)]
def encTs : List Trust → List (List PV)
  | [] => []
  | x :: l => encT x :: encTs l
end
abbrev encTL (l : List Trust) : PV := .sl none 3 (encTs l)
def Trust.thr : Trust → Int | .mk t _ _ => t
def Trust.nodes : Trust → List Int | .mk _ n _ => n
def Trust.inner : Trust → List Trust | .mk _ _ i => i
@[simp] theorem encTs_len (l : List Trust) : (encTs l).length = l.length := by
  induction l with
  | nil => rfl
  | cons x l ih => simp [encTs, ih]
theorem encTs_get {l : List Trust} {k : Nat} {y : Trust} (h : l[k]? = some y) : (encTs l)[k]? = some (encT y) := by
  induction l generalizing k with
  | nil => simp at h
  | cons x l ih =>
    cases k with
    | zero => simp at h; subst h; rfl
    | succ k => simp at h; simp [encTs, ih h]
theorem Trust.ind {Q : Trust → Prop} (h : ∀ t n i, (∀ x ∈ i, Q x) → Q (.mk t n i)) : ∀ x, Q x := by
  intro x
  have : ∀ n, ∀ x : Trust, SizeOf.sizeOf x ≤ n → Q x := by
    intro n
    induction n with
    | zero => intro x hx; cases x; simp at hx
    | succ n ih =>
      intro x hx
      cases x with
      | mk t ns i =>
        refine h t ns i fun y hy => ih y ?_
        have := List.sizeOf_lt_of_mem hy
        simp at hx
        omega
  exact this _ x (Nat.le_refl _)
mutual
def depthT : Trust → Int
  | .mk _ _ i => IntKind.i64.wrap (depthL i 0 + 1)
def depthL : List Trust → Int → Int
  | [], n => n
  | x :: l, n => depthL l (max n (depthT x))
end
mutual
def sizeT : Trust → Int
  | .mk _ n i => sizeL i (IntKind.i64.wrap ((n.length : Int) + i.length))
def sizeL : List Trust → Int → Int
  | [], n => n
  | x :: l, n => sizeL l (IntKind.i64.wrap (n + sizeT x))
end
theorem depthL_append (a b : List Trust) (n : Int) : depthL (a ++ b) n = depthL b (depthL a n) := by
  induction a generalizing n with
  | nil => rfl
  | cons x a ih => simp [depthL, ih]
theorem sizeL_append (a b : List Trust) (n : Int) : sizeL (a ++ b) n = sizeL b (sizeL a n) := by
  induction a generalizing n with
  | nil => rfl
  | cons x a ih => simp [sizeL, ih]
theorem lenT {t : Int} {n : List Int} {i : List Trust} {args : List PV} (hr : RealA args) (hm : .agg (encT (.mk t n i)) ∈ args) : (n.length : Int) ≤ 9223372036854775807 ∧ (i.length : Int) ≤ 9223372036854775807 := by
  have h1 := (hr _ hm (encI n) (by simp [acells, encT]) rfl).len
  have h2 := (hr _ hm (encTL i) (by simp [acells, encT]) rfl).len
  rw [encTs_len] at h2
  exact ⟨by simpa using h1, h2⟩
theorem f171_ok (x : Trust) : C 171 [.agg (encT x)] (I (depthT x)) := by
  induction x using Trust.ind with
  | h t n i ih =>
  refine fn_real (G := G) tabOK hm D0 Tryz.func171 rfl (by kernel_rfl) (by kernel_rfl) rfl rfl fun hr => ?_
  have hlen := (lenT (t := t) (n := n) (i := i) hr (by simp)).2
  repeat (first | refine And.intro (by rfl) ?_ | refine litA ?_ | refine litB ?_ | refine litC ?_ | refine litD ?_ | refine And.intro trivial ?_ | refine And.intro (keptI (by repeat' (first | refine And.intro ?_ ?_ | exact True.intro | rfl | (simp; done)))) ?_)
  refine loop_ok (G := G) tabOK hm D0 (α := {k : Nat // k ≤ i.length ∧ True}) (fun k => ⟨20, [(3, I (depthL (i.take k.1) 0)), (9, I k.1), (8, I (encTs i).length), (7, encTL i)], []⟩) (fun k => i.length - k.1) (by kernel_rfl) ⟨0, Nat.zero_le _, by first | rfl | simp⟩ ?_ ?_
  · repeat' (first | refine fitE_ls rfl rfl ?_ | refine fitC_ls rfl ?_ | refine And.intro ?_ ?_ | exact True.intro | rfl | exact ⟨_, _, rfl, rfl⟩ | exact ⟨_, _, rfl⟩ | decide | (simp [St.get, St.obj, look, lookD, unI, List.map_take]; done))
  rintro ⟨k, hk, hx⟩
  repeat (first | refine And.intro (by rfl) ?_ | refine litA ?_ | refine litB ?_ | refine litC ?_ | refine litD ?_ | refine And.intro trivial ?_ | refine And.intro (keptI (by repeat' (first | refine And.intro ?_ ?_ | exact True.intro | rfl | (simp; done)))) ?_)
  refine And.intro (fun h => ?_) (fun h => ?_)
  rotate_left
  · have hl : i.length ≤ k := by simpa using h
    repeat (first | refine And.intro (by rfl) ?_ | refine litA ?_ | refine litB ?_ | refine litC ?_ | refine litD ?_ | refine And.intro trivial ?_ | refine And.intro (keptI (by repeat' (first | refine And.intro ?_ ?_ | exact True.intro | rfl | (simp; done)))) ?_)
    have ek : i.take k = i := List.take_of_length_le hl
    try rw [ek] at hx
    exact ⟨subI (by show IntKind.i64.wrap (depthL (i.take k) 0 + 1) = _; rw [ek, depthT]), rfl⟩
  have hk' : k < i.length := by simpa using h
  obtain ⟨y, hy⟩ : ∃ y, i[k]? = some y := ⟨_, List.getElem?_eq_getElem hk'⟩
  have e : IntKind.i64.wrap ((k : Int) + 1) = ((k + 1 : Nat) : Int) := by rw [wrap_id] <;> omega
  have et : i.take (k + 1) = i.take k ++ [y] := by rw [List.take_add_one, hy]; rfl
  repeat (first | refine And.intro (by rfl) ?_ | refine litA ?_ | refine litB ?_ | refine litC ?_ | refine litD ?_ | refine And.intro trivial ?_ | refine And.intro (keptI (by repeat' (first | refine And.intro ?_ ?_ | exact True.intro | rfl | (simp; done)))) ?_)
  obtain ⟨ty, ny, iy⟩ := y
  refine ⟨by simp, encT (.mk ty ny iy), by simpa using encTs_get hy, ?_⟩
  repeat (first | refine And.intro (by rfl) ?_ | refine litA ?_ | refine litB ?_ | refine litC ?_ | refine litD ?_ | refine And.intro trivial ?_ | refine And.intro (keptI (by repeat' (first | refine And.intro ?_ ?_ | exact True.intro | rfl | (simp; done)))) ?_)
  refine ⟨_, _, ih _ (List.mem_of_getElem? hy), rfl, rfl, trivial, ?_⟩
  repeat (first | refine And.intro (by rfl) ?_ | refine litA ?_ | refine litB ?_ | refine litC ?_ | refine litD ?_ | refine And.intro trivial ?_ | refine And.intro (keptI (by repeat' (first | refine And.intro ?_ ?_ | exact True.intro | rfl | (simp; done)))) ?_)
  have ed : max (depthL (i.take k) 0) (depthT (.mk ty ny iy)) = depthL (i.take (k + 1)) 0 := by rw [et, depthL_append]; rfl
  refine ⟨⟨k + 1, hk', trivial⟩, ?_, ?_⟩
  · repeat' (first | refine fitE_ls rfl rfl ?_ | refine fitC_ls rfl ?_ | exact congrArg I e | exact congrArg I ed | refine And.intro ?_ ?_ | exact True.intro | rfl | exact ⟨_, _, rfl, rfl⟩ | exact ⟨_, _, rfl⟩ | decide | (simp [St.get, St.obj, look, lookD, unI, List.map_take]; done))
  · dsimp only; omega
theorem f175_ok (x : Trust) : C 175 [.agg (encT x)] (I (depthT x)) := by
  induction x using Trust.ind with
  | h t n i ih =>
  refine fn_real (G := G) tabOK hm D0 Tryz.func175 rfl (by kernel_rfl) (by kernel_rfl) rfl rfl fun hr => ?_
  have hlen := (lenT (t := t) (n := n) (i := i) hr (by simp)).2
  repeat (first | refine And.intro (by rfl) ?_ | refine litA ?_ | refine litB ?_ | refine litC ?_ | refine litD ?_ | refine And.intro trivial ?_ | refine And.intro (keptI (by repeat' (first | refine And.intro ?_ ?_ | exact True.intro | rfl | (simp; done)))) ?_)
  refine loop_ok (G := G) tabOK hm D0 (α := {k : Nat // k ≤ i.length ∧ True}) (fun k => ⟨20, [(3, I (depthL (i.take k.1) 0)), (9, I k.1), (8, I (encTs i).length), (7, encTL i)], []⟩) (fun k => i.length - k.1) (by kernel_rfl) ⟨0, Nat.zero_le _, by first | rfl | simp⟩ ?_ ?_
  · repeat' (first | refine fitE_ls rfl rfl ?_ | refine fitC_ls rfl ?_ | refine And.intro ?_ ?_ | exact True.intro | rfl | exact ⟨_, _, rfl, rfl⟩ | exact ⟨_, _, rfl⟩ | decide | (simp [St.get, St.obj, look, lookD, unI, List.map_take]; done))
  rintro ⟨k, hk, hx⟩
  repeat (first | refine And.intro (by rfl) ?_ | refine litA ?_ | refine litB ?_ | refine litC ?_ | refine litD ?_ | refine And.intro trivial ?_ | refine And.intro (keptI (by repeat' (first | refine And.intro ?_ ?_ | exact True.intro | rfl | (simp; done)))) ?_)
  refine And.intro (fun h => ?_) (fun h => ?_)
  rotate_left
  · have hl : i.length ≤ k := by simpa using h
    repeat (first | refine And.intro (by rfl) ?_ | refine litA ?_ | refine litB ?_ | refine litC ?_ | refine litD ?_ | refine And.intro trivial ?_ | refine And.intro (keptI (by repeat' (first | refine And.intro ?_ ?_ | exact True.intro | rfl | (simp; done)))) ?_)
    have ek : i.take k = i := List.take_of_length_le hl
    try rw [ek] at hx
    exact ⟨subI (by show IntKind.i64.wrap (depthL (i.take k) 0 + 1) = _; rw [ek, depthT]), rfl⟩
  have hk' : k < i.length := by simpa using h
  obtain ⟨y, hy⟩ : ∃ y, i[k]? = some y := ⟨_, List.getElem?_eq_getElem hk'⟩
  have e : IntKind.i64.wrap ((k : Int) + 1) = ((k + 1 : Nat) : Int) := by rw [wrap_id] <;> omega
  have et : i.take (k + 1) = i.take k ++ [y] := by rw [List.take_add_one, hy]; rfl
  repeat (first | refine And.intro (by rfl) ?_ | refine litA ?_ | refine litB ?_ | refine litC ?_ | refine litD ?_ | refine And.intro trivial ?_ | refine And.intro (keptI (by repeat' (first | refine And.intro ?_ ?_ | exact True.intro | rfl | (simp; done)))) ?_)
  obtain ⟨ty, ny, iy⟩ := y
  refine ⟨by simp, encT (.mk ty ny iy), by simpa using encTs_get hy, ?_⟩
  repeat (first | refine And.intro (by rfl) ?_ | refine litA ?_ | refine litB ?_ | refine litC ?_ | refine litD ?_ | refine And.intro trivial ?_ | refine And.intro (keptI (by repeat' (first | refine And.intro ?_ ?_ | exact True.intro | rfl | (simp; done)))) ?_)
  refine ⟨_, _, ih _ (List.mem_of_getElem? hy), rfl, rfl, trivial, ?_⟩
  repeat (first | refine And.intro (by rfl) ?_ | refine litA ?_ | refine litB ?_ | refine litC ?_ | refine litD ?_ | refine And.intro trivial ?_ | refine And.intro (keptI (by repeat' (first | refine And.intro ?_ ?_ | exact True.intro | rfl | (simp; done)))) ?_)
  have ed : max (depthL (i.take k) 0) (depthT (.mk ty ny iy)) = depthL (i.take (k + 1)) 0 := by rw [et, depthL_append]; rfl
  refine ⟨⟨k + 1, hk', trivial⟩, ?_, ?_⟩
  · repeat' (first | refine fitE_ls rfl rfl ?_ | refine fitC_ls rfl ?_ | exact congrArg I e | exact congrArg I ed | refine And.intro ?_ ?_ | exact True.intro | rfl | exact ⟨_, _, rfl, rfl⟩ | exact ⟨_, _, rfl⟩ | decide | (simp [St.get, St.obj, look, lookD, unI, List.map_take]; done))
  · dsimp only; omega
theorem f172_ok (x : Trust) : C 172 [.agg (encT x)] (I (sizeT x)) := by
  induction x using Trust.ind with
  | h t n i ih =>
  refine fn_real (G := G) tabOK hm D0 Tryz.func172 rfl (by kernel_rfl) (by kernel_rfl) rfl rfl fun hr => ?_
  have hlen := (lenT (t := t) (n := n) (i := i) hr (by simp)).2
  repeat (first | refine And.intro (by rfl) ?_ | refine litA ?_ | refine litB ?_ | refine litC ?_ | refine litD ?_ | refine And.intro trivial ?_ | refine And.intro (keptI (by repeat' (first | refine And.intro ?_ ?_ | exact True.intro | rfl | (simp; done)))) ?_)
  refine loop_ok (G := G) tabOK hm D0 (α := {k : Nat // k ≤ i.length ∧ True}) (fun k => ⟨26, [(3, I (sizeL (i.take k.1) (IntKind.i64.wrap ((n.length : Int) + i.length)))), (16, I k.1), (15, I (encTs i).length), (14, encTL i)], []⟩) (fun k => i.length - k.1) (by kernel_rfl) ⟨0, Nat.zero_le _, by first | rfl | simp⟩ ?_ ?_
  · repeat' (first | refine fitE_ls rfl rfl ?_ | refine fitC_ls rfl ?_ | exact congrArg I (by simp; rfl) | refine And.intro ?_ ?_ | exact True.intro | rfl | exact ⟨_, _, rfl, rfl⟩ | exact ⟨_, _, rfl⟩ | decide | (simp [St.get, St.obj, look, lookD, unI, List.map_take]; done))
  rintro ⟨k, hk, hx⟩
  repeat (first | refine And.intro (by rfl) ?_ | refine litA ?_ | refine litB ?_ | refine litC ?_ | refine litD ?_ | refine And.intro trivial ?_ | refine And.intro (keptI (by repeat' (first | refine And.intro ?_ ?_ | exact True.intro | rfl | (simp; done)))) ?_)
  refine And.intro (fun h => ?_) (fun h => ?_)
  rotate_left
  · have hl : i.length ≤ k := by simpa using h
    repeat (first | refine And.intro (by rfl) ?_ | refine litA ?_ | refine litB ?_ | refine litC ?_ | refine litD ?_ | refine And.intro trivial ?_ | refine And.intro (keptI (by repeat' (first | refine And.intro ?_ ?_ | exact True.intro | rfl | (simp; done)))) ?_)
    have ek : i.take k = i := List.take_of_length_le hl
    try rw [ek] at hx
    exact ⟨subI (by show sizeL (i.take k) _ = _; rw [ek, sizeT]), rfl⟩
  have hk' : k < i.length := by simpa using h
  obtain ⟨y, hy⟩ : ∃ y, i[k]? = some y := ⟨_, List.getElem?_eq_getElem hk'⟩
  have e : IntKind.i64.wrap ((k : Int) + 1) = ((k + 1 : Nat) : Int) := by rw [wrap_id] <;> omega
  have et : i.take (k + 1) = i.take k ++ [y] := by rw [List.take_add_one, hy]; rfl
  repeat (first | refine And.intro (by rfl) ?_ | refine litA ?_ | refine litB ?_ | refine litC ?_ | refine litD ?_ | refine And.intro trivial ?_ | refine And.intro (keptI (by repeat' (first | refine And.intro ?_ ?_ | exact True.intro | rfl | (simp; done)))) ?_)
  obtain ⟨ty, ny, iy⟩ := y
  refine ⟨by simp, encT (.mk ty ny iy), by simpa using encTs_get hy, ?_⟩
  repeat (first | refine And.intro (by rfl) ?_ | refine litA ?_ | refine litB ?_ | refine litC ?_ | refine litD ?_ | refine And.intro trivial ?_ | refine And.intro (keptI (by repeat' (first | refine And.intro ?_ ?_ | exact True.intro | rfl | (simp; done)))) ?_)
  refine ⟨_, _, ih _ (List.mem_of_getElem? hy), rfl, rfl, trivial, ?_⟩
  repeat (first | refine And.intro (by rfl) ?_ | refine litA ?_ | refine litB ?_ | refine litC ?_ | refine litD ?_ | refine And.intro trivial ?_ | refine And.intro (keptI (by repeat' (first | refine And.intro ?_ ?_ | exact True.intro | rfl | (simp; done)))) ?_)
  have ed : IntKind.i64.wrap (sizeL (i.take k) (IntKind.i64.wrap ((n.length : Int) + i.length)) + sizeT (.mk ty ny iy)) = sizeL (i.take (k + 1)) (IntKind.i64.wrap ((n.length : Int) + i.length)) := by rw [et, sizeL_append]; rfl
  refine ⟨⟨k + 1, hk', trivial⟩, ?_, ?_⟩
  · repeat' (first | refine fitE_ls rfl rfl ?_ | refine fitC_ls rfl ?_ | exact congrArg I e | exact congrArg I ed | refine And.intro ?_ ?_ | exact True.intro | rfl | exact ⟨_, _, rfl, rfl⟩ | exact ⟨_, _, rfl⟩ | decide | (simp [St.get, St.obj, look, lookD, unI, List.map_take]; done))
  · dsimp only; omega
theorem f176_ok (x : Trust) : C 176 [.agg (encT x)] (I (sizeT x)) := by
  induction x using Trust.ind with
  | h t n i ih =>
  refine fn_real (G := G) tabOK hm D0 Tryz.func176 rfl (by kernel_rfl) (by kernel_rfl) rfl rfl fun hr => ?_
  have hlen := (lenT (t := t) (n := n) (i := i) hr (by simp)).2
  repeat (first | refine And.intro (by rfl) ?_ | refine litA ?_ | refine litB ?_ | refine litC ?_ | refine litD ?_ | refine And.intro trivial ?_ | refine And.intro (keptI (by repeat' (first | refine And.intro ?_ ?_ | exact True.intro | rfl | (simp; done)))) ?_)
  refine loop_ok (G := G) tabOK hm D0 (α := {k : Nat // k ≤ i.length ∧ True}) (fun k => ⟨26, [(3, I (sizeL (i.take k.1) (IntKind.i64.wrap ((n.length : Int) + i.length)))), (16, I k.1), (15, I (encTs i).length), (14, encTL i)], []⟩) (fun k => i.length - k.1) (by kernel_rfl) ⟨0, Nat.zero_le _, by first | rfl | simp⟩ ?_ ?_
  · repeat' (first | refine fitE_ls rfl rfl ?_ | refine fitC_ls rfl ?_ | exact congrArg I (by simp; rfl) | refine And.intro ?_ ?_ | exact True.intro | rfl | exact ⟨_, _, rfl, rfl⟩ | exact ⟨_, _, rfl⟩ | decide | (simp [St.get, St.obj, look, lookD, unI, List.map_take]; done))
  rintro ⟨k, hk, hx⟩
  repeat (first | refine And.intro (by rfl) ?_ | refine litA ?_ | refine litB ?_ | refine litC ?_ | refine litD ?_ | refine And.intro trivial ?_ | refine And.intro (keptI (by repeat' (first | refine And.intro ?_ ?_ | exact True.intro | rfl | (simp; done)))) ?_)
  refine And.intro (fun h => ?_) (fun h => ?_)
  rotate_left
  · have hl : i.length ≤ k := by simpa using h
    repeat (first | refine And.intro (by rfl) ?_ | refine litA ?_ | refine litB ?_ | refine litC ?_ | refine litD ?_ | refine And.intro trivial ?_ | refine And.intro (keptI (by repeat' (first | refine And.intro ?_ ?_ | exact True.intro | rfl | (simp; done)))) ?_)
    have ek : i.take k = i := List.take_of_length_le hl
    try rw [ek] at hx
    exact ⟨subI (by show sizeL (i.take k) _ = _; rw [ek, sizeT]), rfl⟩
  have hk' : k < i.length := by simpa using h
  obtain ⟨y, hy⟩ : ∃ y, i[k]? = some y := ⟨_, List.getElem?_eq_getElem hk'⟩
  have e : IntKind.i64.wrap ((k : Int) + 1) = ((k + 1 : Nat) : Int) := by rw [wrap_id] <;> omega
  have et : i.take (k + 1) = i.take k ++ [y] := by rw [List.take_add_one, hy]; rfl
  repeat (first | refine And.intro (by rfl) ?_ | refine litA ?_ | refine litB ?_ | refine litC ?_ | refine litD ?_ | refine And.intro trivial ?_ | refine And.intro (keptI (by repeat' (first | refine And.intro ?_ ?_ | exact True.intro | rfl | (simp; done)))) ?_)
  obtain ⟨ty, ny, iy⟩ := y
  refine ⟨by simp, encT (.mk ty ny iy), by simpa using encTs_get hy, ?_⟩
  repeat (first | refine And.intro (by rfl) ?_ | refine litA ?_ | refine litB ?_ | refine litC ?_ | refine litD ?_ | refine And.intro trivial ?_ | refine And.intro (keptI (by repeat' (first | refine And.intro ?_ ?_ | exact True.intro | rfl | (simp; done)))) ?_)
  refine ⟨_, _, ih _ (List.mem_of_getElem? hy), rfl, rfl, trivial, ?_⟩
  repeat (first | refine And.intro (by rfl) ?_ | refine litA ?_ | refine litB ?_ | refine litC ?_ | refine litD ?_ | refine And.intro trivial ?_ | refine And.intro (keptI (by repeat' (first | refine And.intro ?_ ?_ | exact True.intro | rfl | (simp; done)))) ?_)
  have ed : IntKind.i64.wrap (sizeL (i.take k) (IntKind.i64.wrap ((n.length : Int) + i.length)) + sizeT (.mk ty ny iy)) = sizeL (i.take (k + 1)) (IntKind.i64.wrap ((n.length : Int) + i.length)) := by rw [et, sizeL_append]; rfl
  refine ⟨⟨k + 1, hk', trivial⟩, ?_, ?_⟩
  · repeat' (first | refine fitE_ls rfl rfl ?_ | refine fitC_ls rfl ?_ | exact congrArg I e | exact congrArg I ed | refine And.intro ?_ ?_ | exact True.intro | rfl | exact ⟨_, _, rfl, rfl⟩ | exact ⟨_, _, rfl⟩ | decide | (simp [St.get, St.obj, look, lookD, unI, List.map_take]; done))
  · dsimp only; omega
end Go.Proofs.YtnkpakakgfkpbaaGreat.V
end
