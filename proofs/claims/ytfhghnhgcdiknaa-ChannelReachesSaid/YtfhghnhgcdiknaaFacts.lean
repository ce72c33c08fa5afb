/- Closed facts about the program's types and functions. -/
import Derived.Test.YtfhghnhgcdiknaaProg
import Derived.Test.YtfhghnhgcdiknaaOps2
import Derived.KernelRfl
namespace Go.Proofs.Ytfhghnhgcdiknaa
theorem ag1 : isAggB Try.prog 1 = some false := by kernel_rfl
theorem ag100 : isAggB Try.prog 100 = some false := by kernel_rfl
theorem ag101 : isAggB Try.prog 101 = some true := by kernel_rfl
theorem ag102 : isAggB Try.prog 102 = some true := by kernel_rfl
theorem ag103 : isAggB Try.prog 103 = some false := by kernel_rfl
theorem ag104 : isAggB Try.prog 104 = some false := by kernel_rfl
theorem ag105 : isAggB Try.prog 105 = some false := by kernel_rfl
theorem ag106 : isAggB Try.prog 106 = some false := by kernel_rfl
theorem ag107 : isAggB Try.prog 107 = some false := by kernel_rfl
theorem ag109 : isAggB Try.prog 109 = some false := by kernel_rfl
theorem ag110 : isAggB Try.prog 110 = some false := by kernel_rfl
theorem ag111 : isAggB Try.prog 111 = some false := by kernel_rfl
theorem ag112 : isAggB Try.prog 112 = some false := by kernel_rfl
theorem ag113 : isAggB Try.prog 113 = some true := by kernel_rfl
theorem ag114 : isAggB Try.prog 114 = some true := by kernel_rfl
theorem ag115 : isAggB Try.prog 115 = some false := by kernel_rfl
theorem ag116 : isAggB Try.prog 116 = some true := by kernel_rfl
theorem ag117 : isAggB Try.prog 117 = some true := by kernel_rfl
theorem ag118 : isAggB Try.prog 118 = some false := by kernel_rfl
theorem ag119 : isAggB Try.prog 119 = some false := by kernel_rfl
theorem ag12 : isAggB Try.prog 12 = some false := by kernel_rfl
theorem ag120 : isAggB Try.prog 120 = some false := by kernel_rfl
theorem ag121 : isAggB Try.prog 121 = some true := by kernel_rfl
theorem ag122 : isAggB Try.prog 122 = some true := by kernel_rfl
theorem ag123 : isAggB Try.prog 123 = some false := by kernel_rfl
theorem ag124 : isAggB Try.prog 124 = some false := by kernel_rfl
theorem ag125 : isAggB Try.prog 125 = some false := by kernel_rfl
theorem ag126 : isAggB Try.prog 126 = some false := by kernel_rfl
theorem ag127 : isAggB Try.prog 127 = some true := by kernel_rfl
theorem ag128 : isAggB Try.prog 128 = some true := by kernel_rfl
theorem ag129 : isAggB Try.prog 129 = some false := by kernel_rfl
theorem ag13 : isAggB Try.prog 13 = some true := by kernel_rfl
theorem ag130 : isAggB Try.prog 130 = some false := by kernel_rfl
theorem ag131 : isAggB Try.prog 131 = some false := by kernel_rfl
theorem ag132 : isAggB Try.prog 132 = some true := by kernel_rfl
theorem ag133 : isAggB Try.prog 133 = some true := by kernel_rfl
theorem ag134 : isAggB Try.prog 134 = some false := by kernel_rfl
theorem ag135 : isAggB Try.prog 135 = some false := by kernel_rfl
theorem ag136 : isAggB Try.prog 136 = some false := by kernel_rfl
theorem ag137 : isAggB Try.prog 137 = some false := by kernel_rfl
theorem ag138 : isAggB Try.prog 138 = some false := by kernel_rfl
theorem ag139 : isAggB Try.prog 139 = some false := by kernel_rfl
theorem ag14 : isAggB Try.prog 14 = some true := by kernel_rfl
theorem ag140 : isAggB Try.prog 140 = some false := by kernel_rfl
theorem ag141 : isAggB Try.prog 141 = some false := by kernel_rfl
theorem ag142 : isAggB Try.prog 142 = some false := by kernel_rfl
theorem ag143 : isAggB Try.prog 143 = some false := by kernel_rfl
theorem ag144 : isAggB Try.prog 144 = some false := by kernel_rfl
theorem ag145 : isAggB Try.prog 145 = some false := by kernel_rfl
theorem ag146 : isAggB Try.prog 146 = some false := by kernel_rfl
theorem ag147 : isAggB Try.prog 147 = some false := by kernel_rfl
theorem ag148 : isAggB Try.prog 148 = some false := by kernel_rfl
theorem ag149 : isAggB Try.prog 149 = some false := by kernel_rfl
theorem ag15 : isAggB Try.prog 15 = some false := by kernel_rfl
theorem ag150 : isAggB Try.prog 150 = some false := by kernel_rfl
theorem ag151 : isAggB Try.prog 151 = some false := by kernel_rfl
theorem ag152 : isAggB Try.prog 152 = some false := by kernel_rfl
theorem ag153 : isAggB Try.prog 153 = some false := by kernel_rfl
theorem ag154 : isAggB Try.prog 154 = some false := by kernel_rfl
theorem ag155 : isAggB Try.prog 155 = some true := by kernel_rfl
theorem ag156 : isAggB Try.prog 156 = some true := by kernel_rfl
theorem ag157 : isAggB Try.prog 157 = some false := by kernel_rfl
theorem ag158 : isAggB Try.prog 158 = some false := by kernel_rfl
theorem ag159 : isAggB Try.prog 159 = some false := by kernel_rfl
theorem ag16 : isAggB Try.prog 16 = some false := by kernel_rfl
theorem ag160 : isAggB Try.prog 160 = some false := by kernel_rfl
theorem ag161 : isAggB Try.prog 161 = some false := by kernel_rfl
theorem ag162 : isAggB Try.prog 162 = some false := by kernel_rfl
theorem ag163 : isAggB Try.prog 163 = some false := by kernel_rfl
theorem ag164 : isAggB Try.prog 164 = some false := by kernel_rfl
theorem ag165 : isAggB Try.prog 165 = some false := by kernel_rfl
theorem ag166 : isAggB Try.prog 166 = some false := by kernel_rfl
theorem ag167 : isAggB Try.prog 167 = some false := by kernel_rfl
theorem ag168 : isAggB Try.prog 168 = some false := by kernel_rfl
theorem ag169 : isAggB Try.prog 169 = some false := by kernel_rfl
theorem ag17 : isAggB Try.prog 17 = some false := by kernel_rfl
theorem ag170 : isAggB Try.prog 170 = some false := by kernel_rfl
theorem ag171 : isAggB Try.prog 171 = some false := by kernel_rfl
theorem ag172 : isAggB Try.prog 172 = some false := by kernel_rfl
theorem ag173 : isAggB Try.prog 173 = some false := by kernel_rfl
theorem ag174 : isAggB Try.prog 174 = some false := by kernel_rfl
theorem ag175 : isAggB Try.prog 175 = some false := by kernel_rfl
theorem ag176 : isAggB Try.prog 176 = some false := by kernel_rfl
theorem ag177 : isAggB Try.prog 177 = some true := by kernel_rfl
theorem ag178 : isAggB Try.prog 178 = some true := by kernel_rfl
theorem ag179 : isAggB Try.prog 179 = some true := by kernel_rfl
theorem ag18 : isAggB Try.prog 18 = some true := by kernel_rfl
theorem ag180 : isAggB Try.prog 180 = some true := by kernel_rfl
theorem ag181 : isAggB Try.prog 181 = some true := by kernel_rfl
theorem ag182 : isAggB Try.prog 182 = some false := by kernel_rfl
theorem ag183 : isAggB Try.prog 183 = some false := by kernel_rfl
theorem ag184 : isAggB Try.prog 184 = some false := by kernel_rfl
theorem ag185 : isAggB Try.prog 185 = some false := by kernel_rfl
theorem ag186 : isAggB Try.prog 186 = some false := by kernel_rfl
theorem ag187 : isAggB Try.prog 187 = some false := by kernel_rfl
theorem ag188 : isAggB Try.prog 188 = some false := by kernel_rfl
theorem ag189 : isAggB Try.prog 189 = some false := by kernel_rfl
theorem ag19 : isAggB Try.prog 19 = some true := by kernel_rfl
theorem ag190 : isAggB Try.prog 190 = some true := by kernel_rfl
theorem ag191 : isAggB Try.prog 191 = some true := by kernel_rfl
theorem ag2 : isAggB Try.prog 2 = some false := by kernel_rfl
theorem ag21 : isAggB Try.prog 21 = some false := by kernel_rfl
theorem ag22 : isAggB Try.prog 22 = some false := by kernel_rfl
theorem ag23 : isAggB Try.prog 23 = some false := by kernel_rfl
theorem ag24 : isAggB Try.prog 24 = some false := by kernel_rfl
theorem ag25 : isAggB Try.prog 25 = some false := by kernel_rfl
theorem ag26 : isAggB Try.prog 26 = some true := by kernel_rfl
theorem ag27 : isAggB Try.prog 27 = some true := by kernel_rfl
theorem ag28 : isAggB Try.prog 28 = some false := by kernel_rfl
theorem ag29 : isAggB Try.prog 29 = some false := by kernel_rfl
theorem ag3 : isAggB Try.prog 3 = some false := by kernel_rfl
theorem ag30 : isAggB Try.prog 30 = some false := by kernel_rfl
theorem ag31 : isAggB Try.prog 31 = some true := by kernel_rfl
theorem ag32 : isAggB Try.prog 32 = some true := by kernel_rfl
theorem ag33 : isAggB Try.prog 33 = some false := by kernel_rfl
theorem ag34 : isAggB Try.prog 34 = some false := by kernel_rfl
theorem ag35 : isAggB Try.prog 35 = some false := by kernel_rfl
theorem ag36 : isAggB Try.prog 36 = some false := by kernel_rfl
theorem ag37 : isAggB Try.prog 37 = some false := by kernel_rfl
theorem ag38 : isAggB Try.prog 38 = some false := by kernel_rfl
theorem ag39 : isAggB Try.prog 39 = some false := by kernel_rfl
theorem ag4 : isAggB Try.prog 4 = some false := by kernel_rfl
theorem ag40 : isAggB Try.prog 40 = some false := by kernel_rfl
theorem ag41 : isAggB Try.prog 41 = some false := by kernel_rfl
theorem ag42 : isAggB Try.prog 42 = some false := by kernel_rfl
theorem ag43 : isAggB Try.prog 43 = some false := by kernel_rfl
theorem ag44 : isAggB Try.prog 44 = some false := by kernel_rfl
theorem ag45 : isAggB Try.prog 45 = some true := by kernel_rfl
theorem ag46 : isAggB Try.prog 46 = some true := by kernel_rfl
theorem ag47 : isAggB Try.prog 47 = some true := by kernel_rfl
theorem ag48 : isAggB Try.prog 48 = some true := by kernel_rfl
theorem ag49 : isAggB Try.prog 49 = some false := by kernel_rfl
theorem ag5 : isAggB Try.prog 5 = some false := by kernel_rfl
theorem ag50 : isAggB Try.prog 50 = some false := by kernel_rfl
theorem ag51 : isAggB Try.prog 51 = some true := by kernel_rfl
theorem ag52 : isAggB Try.prog 52 = some true := by kernel_rfl
theorem ag53 : isAggB Try.prog 53 = some false := by kernel_rfl
theorem ag54 : isAggB Try.prog 54 = some false := by kernel_rfl
theorem ag55 : isAggB Try.prog 55 = some true := by kernel_rfl
theorem ag56 : isAggB Try.prog 56 = some true := by kernel_rfl
theorem ag57 : isAggB Try.prog 57 = some false := by kernel_rfl
theorem ag58 : isAggB Try.prog 58 = some false := by kernel_rfl
theorem ag59 : isAggB Try.prog 59 = some false := by kernel_rfl
theorem ag6 : isAggB Try.prog 6 = some false := by kernel_rfl
theorem ag60 : isAggB Try.prog 60 = some false := by kernel_rfl
theorem ag61 : isAggB Try.prog 61 = some false := by kernel_rfl
theorem ag62 : isAggB Try.prog 62 = some false := by kernel_rfl
theorem ag64 : isAggB Try.prog 64 = some false := by kernel_rfl
theorem ag65 : isAggB Try.prog 65 = some false := by kernel_rfl
theorem ag66 : isAggB Try.prog 66 = some false := by kernel_rfl
theorem ag67 : isAggB Try.prog 67 = some false := by kernel_rfl
theorem ag68 : isAggB Try.prog 68 = some false := by kernel_rfl
theorem ag69 : isAggB Try.prog 69 = some false := by kernel_rfl
theorem ag7 : isAggB Try.prog 7 = some true := by kernel_rfl
theorem ag70 : isAggB Try.prog 70 = some false := by kernel_rfl
theorem ag71 : isAggB Try.prog 71 = some false := by kernel_rfl
theorem ag72 : isAggB Try.prog 72 = some false := by kernel_rfl
theorem ag73 : isAggB Try.prog 73 = some false := by kernel_rfl
theorem ag74 : isAggB Try.prog 74 = some true := by kernel_rfl
theorem ag75 : isAggB Try.prog 75 = some true := by kernel_rfl
theorem ag76 : isAggB Try.prog 76 = some false := by kernel_rfl
theorem ag77 : isAggB Try.prog 77 = some true := by kernel_rfl
theorem ag78 : isAggB Try.prog 78 = some true := by kernel_rfl
theorem ag79 : isAggB Try.prog 79 = some true := by kernel_rfl
theorem ag8 : isAggB Try.prog 8 = some true := by kernel_rfl
theorem ag80 : isAggB Try.prog 80 = some true := by kernel_rfl
theorem ag81 : isAggB Try.prog 81 = some true := by kernel_rfl
theorem ag82 : isAggB Try.prog 82 = some false := by kernel_rfl
theorem ag83 : isAggB Try.prog 83 = some false := by kernel_rfl
theorem ag84 : isAggB Try.prog 84 = some false := by kernel_rfl
theorem ag85 : isAggB Try.prog 85 = some false := by kernel_rfl
theorem ag86 : isAggB Try.prog 86 = some false := by kernel_rfl
theorem ag87 : isAggB Try.prog 87 = some false := by kernel_rfl
theorem ag88 : isAggB Try.prog 88 = some false := by kernel_rfl
theorem ag89 : isAggB Try.prog 89 = some false := by kernel_rfl
theorem ag90 : isAggB Try.prog 90 = some true := by kernel_rfl
theorem ag91 : isAggB Try.prog 91 = some true := by kernel_rfl
theorem ag92 : isAggB Try.prog 92 = some true := by kernel_rfl
theorem ag93 : isAggB Try.prog 93 = some true := by kernel_rfl
theorem ag94 : isAggB Try.prog 94 = some true := by kernel_rfl
theorem ag95 : isAggB Try.prog 95 = some true := by kernel_rfl
theorem ag96 : isAggB Try.prog 96 = some true := by kernel_rfl
theorem ag97 : isAggB Try.prog 97 = some true := by kernel_rfl
theorem ag98 : isAggB Try.prog 98 = some false := by kernel_rfl
theorem ag99 : isAggB Try.prog 99 = some false := by kernel_rfl
theorem el22 : elemOfP Try.prog 22 = some (3, 1) := by kernel_rfl
theorem el23 : elemOfP Try.prog 23 = some (75, 11) := by kernel_rfl
theorem el24 : elemOfP Try.prog 24 = some (128, 3) := by kernel_rfl
theorem el25 : elemOfP Try.prog 25 = some (32, 5) := by kernel_rfl
theorem el28 : elemOfP Try.prog 28 = some (48, 15) := by kernel_rfl
theorem el35 : elemOfP Try.prog 35 = some (4, 1) := by kernel_rfl
theorem el38 : elemOfP Try.prog 38 = some (81, 18) := by kernel_rfl
theorem el39 : elemOfP Try.prog 39 = some (91, 3) := by kernel_rfl
theorem el40 : elemOfP Try.prog 40 = some (93, 4) := by kernel_rfl
theorem el41 : elemOfP Try.prog 41 = some (95, 4) := by kernel_rfl
theorem el42 : elemOfP Try.prog 42 = some (97, 2) := by kernel_rfl
theorem el43 : elemOfP Try.prog 43 = some (56, 3) := by kernel_rfl
theorem el44 : elemOfP Try.prog 44 = some (52, 3) := by kernel_rfl
theorem el70 : elemOfP Try.prog 70 = some (156, 3) := by kernel_rfl
theorem el71 : elemOfP Try.prog 71 = some (122, 5) := by kernel_rfl
theorem el72 : elemOfP Try.prog 72 = some (114, 2) := by kernel_rfl
theorem el73 : elemOfP Try.prog 73 = some (117, 3) := by kernel_rfl
theorem el88 : elemOfP Try.prog 88 = some (89, 1) := by kernel_rfl
theorem el89 : elemOfP Try.prog 89 = some (102, 3) := by kernel_rfl
theorem fk10 : fnOk Try.prog 10 = true := by kernel_rfl
theorem fk100 : fnOk Try.prog 100 = true := by kernel_rfl
theorem fk101 : fnOk Try.prog 101 = true := by kernel_rfl
theorem fk102 : fnOk Try.prog 102 = true := by kernel_rfl
theorem fk103 : fnOk Try.prog 103 = true := by kernel_rfl
theorem fk104 : fnOk Try.prog 104 = true := by kernel_rfl
theorem fk105 : fnOk Try.prog 105 = true := by kernel_rfl
theorem fk11 : fnOk Try.prog 11 = true := by kernel_rfl
theorem fk12 : fnOk Try.prog 12 = true := by kernel_rfl
theorem fk13 : fnOk Try.prog 13 = true := by kernel_rfl
theorem fk14 : fnOk Try.prog 14 = true := by kernel_rfl
theorem fk15 : fnOk Try.prog 15 = true := by kernel_rfl
theorem fk16 : fnOk Try.prog 16 = true := by kernel_rfl
theorem fk17 : fnOk Try.prog 17 = true := by kernel_rfl
theorem fk18 : fnOk Try.prog 18 = true := by kernel_rfl
theorem fk19 : fnOk Try.prog 19 = true := by kernel_rfl
theorem fk2 : fnOk Try.prog 2 = true := by kernel_rfl
theorem fk20 : fnOk Try.prog 20 = true := by kernel_rfl
theorem fk21 : fnOk Try.prog 21 = true := by kernel_rfl
theorem fk22 : fnOk Try.prog 22 = true := by kernel_rfl
theorem fk23 : fnOk Try.prog 23 = true := by kernel_rfl
theorem fk24 : fnOk Try.prog 24 = true := by kernel_rfl
theorem fk25 : fnOk Try.prog 25 = true := by kernel_rfl
theorem fk26 : fnOk Try.prog 26 = true := by kernel_rfl
theorem fk27 : fnOk Try.prog 27 = true := by kernel_rfl
theorem fk28 : fnOk Try.prog 28 = true := by kernel_rfl
theorem fk29 : fnOk Try.prog 29 = true := by kernel_rfl
theorem fk3 : fnOk Try.prog 3 = true := by kernel_rfl
theorem fk30 : fnOk Try.prog 30 = true := by kernel_rfl
theorem fk31 : fnOk Try.prog 31 = true := by kernel_rfl
theorem fk32 : fnOk Try.prog 32 = true := by kernel_rfl
theorem fk33 : fnOk Try.prog 33 = true := by kernel_rfl
theorem fk34 : fnOk Try.prog 34 = true := by kernel_rfl
theorem fk35 : fnOk Try.prog 35 = true := by kernel_rfl
theorem fk36 : fnOk Try.prog 36 = true := by kernel_rfl
theorem fk37 : fnOk Try.prog 37 = true := by kernel_rfl
theorem fk38 : fnOk Try.prog 38 = true := by kernel_rfl
theorem fk39 : fnOk Try.prog 39 = true := by kernel_rfl
theorem fk4 : fnOk Try.prog 4 = true := by kernel_rfl
theorem fk40 : fnOk Try.prog 40 = true := by kernel_rfl
theorem fk41 : fnOk Try.prog 41 = true := by kernel_rfl
theorem fk42 : fnOk Try.prog 42 = true := by kernel_rfl
theorem fk43 : fnOk Try.prog 43 = true := by kernel_rfl
theorem fk44 : fnOk Try.prog 44 = true := by kernel_rfl
theorem fk45 : fnOk Try.prog 45 = true := by kernel_rfl
theorem fk46 : fnOk Try.prog 46 = true := by kernel_rfl
theorem fk47 : fnOk Try.prog 47 = true := by kernel_rfl
theorem fk48 : fnOk Try.prog 48 = true := by kernel_rfl
theorem fk49 : fnOk Try.prog 49 = true := by kernel_rfl
theorem fk5 : fnOk Try.prog 5 = true := by kernel_rfl
theorem fk50 : fnOk Try.prog 50 = true := by kernel_rfl
theorem fk51 : fnOk Try.prog 51 = true := by kernel_rfl
theorem fk52 : fnOk Try.prog 52 = true := by kernel_rfl
theorem fk53 : fnOk Try.prog 53 = true := by kernel_rfl
theorem fk54 : fnOk Try.prog 54 = true := by kernel_rfl
theorem fk55 : fnOk Try.prog 55 = true := by kernel_rfl
theorem fk56 : fnOk Try.prog 56 = true := by kernel_rfl
theorem fk57 : fnOk Try.prog 57 = true := by kernel_rfl
theorem fk58 : fnOk Try.prog 58 = true := by kernel_rfl
theorem fk59 : fnOk Try.prog 59 = true := by kernel_rfl
theorem fk6 : fnOk Try.prog 6 = true := by kernel_rfl
theorem fk60 : fnOk Try.prog 60 = true := by kernel_rfl
theorem fk61 : fnOk Try.prog 61 = true := by kernel_rfl
theorem fk62 : fnOk Try.prog 62 = true := by kernel_rfl
theorem fk63 : fnOk Try.prog 63 = true := by kernel_rfl
theorem fk64 : fnOk Try.prog 64 = true := by kernel_rfl
theorem fk65 : fnOk Try.prog 65 = true := by kernel_rfl
theorem fk66 : fnOk Try.prog 66 = true := by kernel_rfl
theorem fk67 : fnOk Try.prog 67 = true := by kernel_rfl
theorem fk68 : fnOk Try.prog 68 = true := by kernel_rfl
theorem fk69 : fnOk Try.prog 69 = true := by kernel_rfl
theorem fk7 : fnOk Try.prog 7 = true := by kernel_rfl
theorem fk70 : fnOk Try.prog 70 = true := by kernel_rfl
theorem fk71 : fnOk Try.prog 71 = true := by kernel_rfl
theorem fk72 : fnOk Try.prog 72 = true := by kernel_rfl
theorem fk73 : fnOk Try.prog 73 = true := by kernel_rfl
theorem fk74 : fnOk Try.prog 74 = true := by kernel_rfl
theorem fk75 : fnOk Try.prog 75 = true := by kernel_rfl
theorem fk76 : fnOk Try.prog 76 = true := by kernel_rfl
theorem fk77 : fnOk Try.prog 77 = true := by kernel_rfl
theorem fk78 : fnOk Try.prog 78 = true := by kernel_rfl
theorem fk79 : fnOk Try.prog 79 = true := by kernel_rfl
theorem fk8 : fnOk Try.prog 8 = true := by kernel_rfl
theorem fk80 : fnOk Try.prog 80 = true := by kernel_rfl
theorem fk81 : fnOk Try.prog 81 = true := by kernel_rfl
theorem fk82 : fnOk Try.prog 82 = true := by kernel_rfl
theorem fk83 : fnOk Try.prog 83 = true := by kernel_rfl
theorem fk84 : fnOk Try.prog 84 = true := by kernel_rfl
theorem fk85 : fnOk Try.prog 85 = true := by kernel_rfl
theorem fk86 : fnOk Try.prog 86 = true := by kernel_rfl
theorem fk87 : fnOk Try.prog 87 = true := by kernel_rfl
theorem fk88 : fnOk Try.prog 88 = true := by kernel_rfl
theorem fk89 : fnOk Try.prog 89 = true := by kernel_rfl
theorem fk9 : fnOk Try.prog 9 = true := by kernel_rfl
theorem fk90 : fnOk Try.prog 90 = true := by kernel_rfl
theorem fk91 : fnOk Try.prog 91 = true := by kernel_rfl
theorem fk92 : fnOk Try.prog 92 = true := by kernel_rfl
theorem fk93 : fnOk Try.prog 93 = true := by kernel_rfl
theorem fk94 : fnOk Try.prog 94 = true := by kernel_rfl
theorem fk95 : fnOk Try.prog 95 = true := by kernel_rfl
theorem fk96 : fnOk Try.prog 96 = true := by kernel_rfl
theorem fk97 : fnOk Try.prog 97 = true := by kernel_rfl
theorem fk98 : fnOk Try.prog 98 = true := by kernel_rfl
theorem fk99 : fnOk Try.prog 99 = true := by kernel_rfl
theorem fo101_0 : fieldOff Try.prog 101 0 = some 0 := by kernel_rfl
theorem fo101_1 : fieldOff Try.prog 101 1 = some 1 := by kernel_rfl
theorem fo101_2 : fieldOff Try.prog 101 2 = some 2 := by kernel_rfl
theorem fo102_0 : fieldOff Try.prog 102 0 = some 0 := by kernel_rfl
theorem fo102_1 : fieldOff Try.prog 102 1 = some 1 := by kernel_rfl
theorem fo102_2 : fieldOff Try.prog 102 2 = some 2 := by kernel_rfl
theorem fo113_0 : fieldOff Try.prog 113 0 = some 0 := by kernel_rfl
theorem fo113_1 : fieldOff Try.prog 113 1 = some 1 := by kernel_rfl
theorem fo114_0 : fieldOff Try.prog 114 0 = some 0 := by kernel_rfl
theorem fo114_1 : fieldOff Try.prog 114 1 = some 1 := by kernel_rfl
theorem fo116_0 : fieldOff Try.prog 116 0 = some 0 := by kernel_rfl
theorem fo116_1 : fieldOff Try.prog 116 1 = some 1 := by kernel_rfl
theorem fo116_2 : fieldOff Try.prog 116 2 = some 2 := by kernel_rfl
theorem fo117_0 : fieldOff Try.prog 117 0 = some 0 := by kernel_rfl
theorem fo117_1 : fieldOff Try.prog 117 1 = some 1 := by kernel_rfl
theorem fo117_2 : fieldOff Try.prog 117 2 = some 2 := by kernel_rfl
theorem fo121_0 : fieldOff Try.prog 121 0 = some 0 := by kernel_rfl
theorem fo121_1 : fieldOff Try.prog 121 1 = some 1 := by kernel_rfl
theorem fo121_2 : fieldOff Try.prog 121 2 = some 2 := by kernel_rfl
theorem fo121_3 : fieldOff Try.prog 121 3 = some 3 := by kernel_rfl
theorem fo121_4 : fieldOff Try.prog 121 4 = some 4 := by kernel_rfl
theorem fo122_0 : fieldOff Try.prog 122 0 = some 0 := by kernel_rfl
theorem fo122_1 : fieldOff Try.prog 122 1 = some 1 := by kernel_rfl
theorem fo122_2 : fieldOff Try.prog 122 2 = some 2 := by kernel_rfl
theorem fo122_3 : fieldOff Try.prog 122 3 = some 3 := by kernel_rfl
theorem fo122_4 : fieldOff Try.prog 122 4 = some 4 := by kernel_rfl
theorem fo127_0 : fieldOff Try.prog 127 0 = some 0 := by kernel_rfl
theorem fo127_1 : fieldOff Try.prog 127 1 = some 1 := by kernel_rfl
theorem fo127_2 : fieldOff Try.prog 127 2 = some 2 := by kernel_rfl
theorem fo128_0 : fieldOff Try.prog 128 0 = some 0 := by kernel_rfl
theorem fo128_1 : fieldOff Try.prog 128 1 = some 1 := by kernel_rfl
theorem fo128_2 : fieldOff Try.prog 128 2 = some 2 := by kernel_rfl
theorem fo132_0 : fieldOff Try.prog 132 0 = some 0 := by kernel_rfl
theorem fo132_1 : fieldOff Try.prog 132 1 = some 1 := by kernel_rfl
theorem fo132_2 : fieldOff Try.prog 132 2 = some 2 := by kernel_rfl
theorem fo133_0 : fieldOff Try.prog 133 0 = some 0 := by kernel_rfl
theorem fo133_1 : fieldOff Try.prog 133 1 = some 1 := by kernel_rfl
theorem fo133_2 : fieldOff Try.prog 133 2 = some 2 := by kernel_rfl
theorem fo13_0 : fieldOff Try.prog 13 0 = some 0 := by kernel_rfl
theorem fo13_1 : fieldOff Try.prog 13 1 = some 1 := by kernel_rfl
theorem fo14_0 : fieldOff Try.prog 14 0 = some 0 := by kernel_rfl
theorem fo14_1 : fieldOff Try.prog 14 1 = some 1 := by kernel_rfl
theorem fo155_0 : fieldOff Try.prog 155 0 = some 0 := by kernel_rfl
theorem fo155_1 : fieldOff Try.prog 155 1 = some 1 := by kernel_rfl
theorem fo155_2 : fieldOff Try.prog 155 2 = some 2 := by kernel_rfl
theorem fo156_0 : fieldOff Try.prog 156 0 = some 0 := by kernel_rfl
theorem fo156_1 : fieldOff Try.prog 156 1 = some 1 := by kernel_rfl
theorem fo156_2 : fieldOff Try.prog 156 2 = some 2 := by kernel_rfl
theorem fo177_0 : fieldOff Try.prog 177 0 = some 0 := by kernel_rfl
theorem fo177_1 : fieldOff Try.prog 177 1 = some 1 := by kernel_rfl
theorem fo177_2 : fieldOff Try.prog 177 2 = some 2 := by kernel_rfl
theorem fo177_3 : fieldOff Try.prog 177 3 = some 3 := by kernel_rfl
theorem fo178_0 : fieldOff Try.prog 178 0 = some 0 := by kernel_rfl
theorem fo178_1 : fieldOff Try.prog 178 1 = some 1 := by kernel_rfl
theorem fo178_2 : fieldOff Try.prog 178 2 = some 2 := by kernel_rfl
theorem fo178_3 : fieldOff Try.prog 178 3 = some 3 := by kernel_rfl
theorem fo18_0 : fieldOff Try.prog 18 0 = some 0 := by kernel_rfl
theorem fo190_0 : fieldOff Try.prog 190 0 = some 0 := by kernel_rfl
theorem fo190_1 : fieldOff Try.prog 190 1 = some 1 := by kernel_rfl
theorem fo190_10 : fieldOff Try.prog 190 10 = some 10 := by kernel_rfl
theorem fo190_2 : fieldOff Try.prog 190 2 = some 2 := by kernel_rfl
theorem fo190_3 : fieldOff Try.prog 190 3 = some 3 := by kernel_rfl
theorem fo190_4 : fieldOff Try.prog 190 4 = some 4 := by kernel_rfl
theorem fo190_5 : fieldOff Try.prog 190 5 = some 5 := by kernel_rfl
theorem fo190_6 : fieldOff Try.prog 190 6 = some 6 := by kernel_rfl
theorem fo190_7 : fieldOff Try.prog 190 7 = some 7 := by kernel_rfl
theorem fo190_8 : fieldOff Try.prog 190 8 = some 8 := by kernel_rfl
theorem fo190_9 : fieldOff Try.prog 190 9 = some 9 := by kernel_rfl
theorem fo191_0 : fieldOff Try.prog 191 0 = some 0 := by kernel_rfl
theorem fo191_1 : fieldOff Try.prog 191 1 = some 1 := by kernel_rfl
theorem fo191_10 : fieldOff Try.prog 191 10 = some 10 := by kernel_rfl
theorem fo191_2 : fieldOff Try.prog 191 2 = some 2 := by kernel_rfl
theorem fo191_3 : fieldOff Try.prog 191 3 = some 3 := by kernel_rfl
theorem fo191_4 : fieldOff Try.prog 191 4 = some 4 := by kernel_rfl
theorem fo191_5 : fieldOff Try.prog 191 5 = some 5 := by kernel_rfl
theorem fo191_6 : fieldOff Try.prog 191 6 = some 6 := by kernel_rfl
theorem fo191_7 : fieldOff Try.prog 191 7 = some 7 := by kernel_rfl
theorem fo191_8 : fieldOff Try.prog 191 8 = some 8 := by kernel_rfl
theorem fo191_9 : fieldOff Try.prog 191 9 = some 9 := by kernel_rfl
theorem fo19_0 : fieldOff Try.prog 19 0 = some 0 := by kernel_rfl
theorem fo26_0 : fieldOff Try.prog 26 0 = some 0 := by kernel_rfl
theorem fo26_1 : fieldOff Try.prog 26 1 = some 1 := by kernel_rfl
theorem fo26_2 : fieldOff Try.prog 26 2 = some 2 := by kernel_rfl
theorem fo26_3 : fieldOff Try.prog 26 3 = some 3 := by kernel_rfl
theorem fo26_4 : fieldOff Try.prog 26 4 = some 4 := by kernel_rfl
theorem fo26_5 : fieldOff Try.prog 26 5 = some 5 := by kernel_rfl
theorem fo27_0 : fieldOff Try.prog 27 0 = some 0 := by kernel_rfl
theorem fo27_1 : fieldOff Try.prog 27 1 = some 1 := by kernel_rfl
theorem fo27_2 : fieldOff Try.prog 27 2 = some 2 := by kernel_rfl
theorem fo27_3 : fieldOff Try.prog 27 3 = some 3 := by kernel_rfl
theorem fo27_4 : fieldOff Try.prog 27 4 = some 4 := by kernel_rfl
theorem fo27_5 : fieldOff Try.prog 27 5 = some 5 := by kernel_rfl
theorem fo31_0 : fieldOff Try.prog 31 0 = some 0 := by kernel_rfl
theorem fo31_1 : fieldOff Try.prog 31 1 = some 1 := by kernel_rfl
theorem fo31_2 : fieldOff Try.prog 31 2 = some 2 := by kernel_rfl
theorem fo31_3 : fieldOff Try.prog 31 3 = some 3 := by kernel_rfl
theorem fo31_4 : fieldOff Try.prog 31 4 = some 4 := by kernel_rfl
theorem fo32_0 : fieldOff Try.prog 32 0 = some 0 := by kernel_rfl
theorem fo32_1 : fieldOff Try.prog 32 1 = some 1 := by kernel_rfl
theorem fo32_2 : fieldOff Try.prog 32 2 = some 2 := by kernel_rfl
theorem fo32_3 : fieldOff Try.prog 32 3 = some 3 := by kernel_rfl
theorem fo32_4 : fieldOff Try.prog 32 4 = some 4 := by kernel_rfl
theorem fo45_0 : fieldOff Try.prog 45 0 = some 0 := by kernel_rfl
theorem fo45_1 : fieldOff Try.prog 45 1 = some 1 := by kernel_rfl
theorem fo45_2 : fieldOff Try.prog 45 2 = some 2 := by kernel_rfl
theorem fo46_0 : fieldOff Try.prog 46 0 = some 0 := by kernel_rfl
theorem fo46_1 : fieldOff Try.prog 46 1 = some 1 := by kernel_rfl
theorem fo46_2 : fieldOff Try.prog 46 2 = some 2 := by kernel_rfl
theorem fo47_0 : fieldOff Try.prog 47 0 = some 0 := by kernel_rfl
theorem fo47_1 : fieldOff Try.prog 47 1 = some 1 := by kernel_rfl
theorem fo47_10 : fieldOff Try.prog 47 10 = some 10 := by kernel_rfl
theorem fo47_11 : fieldOff Try.prog 47 11 = some 11 := by kernel_rfl
theorem fo47_12 : fieldOff Try.prog 47 12 = some 14 := by kernel_rfl
theorem fo47_2 : fieldOff Try.prog 47 2 = some 2 := by kernel_rfl
theorem fo47_3 : fieldOff Try.prog 47 3 = some 3 := by kernel_rfl
theorem fo47_4 : fieldOff Try.prog 47 4 = some 4 := by kernel_rfl
theorem fo47_5 : fieldOff Try.prog 47 5 = some 5 := by kernel_rfl
theorem fo47_6 : fieldOff Try.prog 47 6 = some 6 := by kernel_rfl
theorem fo47_7 : fieldOff Try.prog 47 7 = some 7 := by kernel_rfl
theorem fo47_8 : fieldOff Try.prog 47 8 = some 8 := by kernel_rfl
theorem fo47_9 : fieldOff Try.prog 47 9 = some 9 := by kernel_rfl
theorem fo48_0 : fieldOff Try.prog 48 0 = some 0 := by kernel_rfl
theorem fo48_1 : fieldOff Try.prog 48 1 = some 1 := by kernel_rfl
theorem fo48_10 : fieldOff Try.prog 48 10 = some 10 := by kernel_rfl
theorem fo48_11 : fieldOff Try.prog 48 11 = some 11 := by kernel_rfl
theorem fo48_12 : fieldOff Try.prog 48 12 = some 14 := by kernel_rfl
theorem fo48_2 : fieldOff Try.prog 48 2 = some 2 := by kernel_rfl
theorem fo48_3 : fieldOff Try.prog 48 3 = some 3 := by kernel_rfl
theorem fo48_4 : fieldOff Try.prog 48 4 = some 4 := by kernel_rfl
theorem fo48_5 : fieldOff Try.prog 48 5 = some 5 := by kernel_rfl
theorem fo48_6 : fieldOff Try.prog 48 6 = some 6 := by kernel_rfl
theorem fo48_7 : fieldOff Try.prog 48 7 = some 7 := by kernel_rfl
theorem fo48_8 : fieldOff Try.prog 48 8 = some 8 := by kernel_rfl
theorem fo48_9 : fieldOff Try.prog 48 9 = some 9 := by kernel_rfl
theorem fo51_0 : fieldOff Try.prog 51 0 = some 0 := by kernel_rfl
theorem fo51_1 : fieldOff Try.prog 51 1 = some 1 := by kernel_rfl
theorem fo51_2 : fieldOff Try.prog 51 2 = some 2 := by kernel_rfl
theorem fo52_0 : fieldOff Try.prog 52 0 = some 0 := by kernel_rfl
theorem fo52_1 : fieldOff Try.prog 52 1 = some 1 := by kernel_rfl
theorem fo52_2 : fieldOff Try.prog 52 2 = some 2 := by kernel_rfl
theorem fo55_0 : fieldOff Try.prog 55 0 = some 0 := by kernel_rfl
theorem fo55_1 : fieldOff Try.prog 55 1 = some 1 := by kernel_rfl
theorem fo55_2 : fieldOff Try.prog 55 2 = some 2 := by kernel_rfl
theorem fo56_0 : fieldOff Try.prog 56 0 = some 0 := by kernel_rfl
theorem fo56_1 : fieldOff Try.prog 56 1 = some 1 := by kernel_rfl
theorem fo56_2 : fieldOff Try.prog 56 2 = some 2 := by kernel_rfl
theorem fo74_0 : fieldOff Try.prog 74 0 = some 0 := by kernel_rfl
theorem fo74_1 : fieldOff Try.prog 74 1 = some 1 := by kernel_rfl
theorem fo74_10 : fieldOff Try.prog 74 10 = some 10 := by kernel_rfl
theorem fo74_2 : fieldOff Try.prog 74 2 = some 2 := by kernel_rfl
theorem fo74_3 : fieldOff Try.prog 74 3 = some 3 := by kernel_rfl
theorem fo74_4 : fieldOff Try.prog 74 4 = some 4 := by kernel_rfl
theorem fo74_5 : fieldOff Try.prog 74 5 = some 5 := by kernel_rfl
theorem fo74_6 : fieldOff Try.prog 74 6 = some 6 := by kernel_rfl
theorem fo74_7 : fieldOff Try.prog 74 7 = some 7 := by kernel_rfl
theorem fo74_8 : fieldOff Try.prog 74 8 = some 8 := by kernel_rfl
theorem fo74_9 : fieldOff Try.prog 74 9 = some 9 := by kernel_rfl
theorem fo75_0 : fieldOff Try.prog 75 0 = some 0 := by kernel_rfl
theorem fo75_1 : fieldOff Try.prog 75 1 = some 1 := by kernel_rfl
theorem fo75_10 : fieldOff Try.prog 75 10 = some 10 := by kernel_rfl
theorem fo75_2 : fieldOff Try.prog 75 2 = some 2 := by kernel_rfl
theorem fo75_3 : fieldOff Try.prog 75 3 = some 3 := by kernel_rfl
theorem fo75_4 : fieldOff Try.prog 75 4 = some 4 := by kernel_rfl
theorem fo75_5 : fieldOff Try.prog 75 5 = some 5 := by kernel_rfl
theorem fo75_6 : fieldOff Try.prog 75 6 = some 6 := by kernel_rfl
theorem fo75_7 : fieldOff Try.prog 75 7 = some 7 := by kernel_rfl
theorem fo75_8 : fieldOff Try.prog 75 8 = some 8 := by kernel_rfl
theorem fo75_9 : fieldOff Try.prog 75 9 = some 9 := by kernel_rfl
theorem fo78_0 : fieldOff Try.prog 78 0 = some 0 := by kernel_rfl
theorem fo78_1 : fieldOff Try.prog 78 1 = some 1 := by kernel_rfl
theorem fo79_0 : fieldOff Try.prog 79 0 = some 0 := by kernel_rfl
theorem fo79_1 : fieldOff Try.prog 79 1 = some 1 := by kernel_rfl
theorem fo7_0 : fieldOff Try.prog 7 0 = some 0 := by kernel_rfl
theorem fo7_1 : fieldOff Try.prog 7 1 = some 1 := by kernel_rfl
theorem fo7_2 : fieldOff Try.prog 7 2 = some 2 := by kernel_rfl
theorem fo7_3 : fieldOff Try.prog 7 3 = some 3 := by kernel_rfl
theorem fo80_0 : fieldOff Try.prog 80 0 = some 0 := by kernel_rfl
theorem fo80_1 : fieldOff Try.prog 80 1 = some 1 := by kernel_rfl
theorem fo80_10 : fieldOff Try.prog 80 10 = some 14 := by kernel_rfl
theorem fo80_11 : fieldOff Try.prog 80 11 = some 15 := by kernel_rfl
theorem fo80_12 : fieldOff Try.prog 80 12 = some 16 := by kernel_rfl
theorem fo80_13 : fieldOff Try.prog 80 13 = some 17 := by kernel_rfl
theorem fo80_2 : fieldOff Try.prog 80 2 = some 2 := by kernel_rfl
theorem fo80_3 : fieldOff Try.prog 80 3 = some 3 := by kernel_rfl
theorem fo80_4 : fieldOff Try.prog 80 4 = some 8 := by kernel_rfl
theorem fo80_5 : fieldOff Try.prog 80 5 = some 9 := by kernel_rfl
theorem fo80_6 : fieldOff Try.prog 80 6 = some 10 := by kernel_rfl
theorem fo80_7 : fieldOff Try.prog 80 7 = some 11 := by kernel_rfl
theorem fo80_8 : fieldOff Try.prog 80 8 = some 12 := by kernel_rfl
theorem fo80_9 : fieldOff Try.prog 80 9 = some 13 := by kernel_rfl
theorem fo81_0 : fieldOff Try.prog 81 0 = some 0 := by kernel_rfl
theorem fo81_1 : fieldOff Try.prog 81 1 = some 1 := by kernel_rfl
theorem fo81_10 : fieldOff Try.prog 81 10 = some 14 := by kernel_rfl
theorem fo81_11 : fieldOff Try.prog 81 11 = some 15 := by kernel_rfl
theorem fo81_12 : fieldOff Try.prog 81 12 = some 16 := by kernel_rfl
theorem fo81_13 : fieldOff Try.prog 81 13 = some 17 := by kernel_rfl
theorem fo81_2 : fieldOff Try.prog 81 2 = some 2 := by kernel_rfl
theorem fo81_3 : fieldOff Try.prog 81 3 = some 3 := by kernel_rfl
theorem fo81_4 : fieldOff Try.prog 81 4 = some 8 := by kernel_rfl
theorem fo81_5 : fieldOff Try.prog 81 5 = some 9 := by kernel_rfl
theorem fo81_6 : fieldOff Try.prog 81 6 = some 10 := by kernel_rfl
theorem fo81_7 : fieldOff Try.prog 81 7 = some 11 := by kernel_rfl
theorem fo81_8 : fieldOff Try.prog 81 8 = some 12 := by kernel_rfl
theorem fo81_9 : fieldOff Try.prog 81 9 = some 13 := by kernel_rfl
theorem fo8_0 : fieldOff Try.prog 8 0 = some 0 := by kernel_rfl
theorem fo8_1 : fieldOff Try.prog 8 1 = some 1 := by kernel_rfl
theorem fo8_2 : fieldOff Try.prog 8 2 = some 2 := by kernel_rfl
theorem fo8_3 : fieldOff Try.prog 8 3 = some 3 := by kernel_rfl
theorem fo90_0 : fieldOff Try.prog 90 0 = some 0 := by kernel_rfl
theorem fo90_1 : fieldOff Try.prog 90 1 = some 1 := by kernel_rfl
theorem fo90_2 : fieldOff Try.prog 90 2 = some 2 := by kernel_rfl
theorem fo91_0 : fieldOff Try.prog 91 0 = some 0 := by kernel_rfl
theorem fo91_1 : fieldOff Try.prog 91 1 = some 1 := by kernel_rfl
theorem fo91_2 : fieldOff Try.prog 91 2 = some 2 := by kernel_rfl
theorem fo92_0 : fieldOff Try.prog 92 0 = some 0 := by kernel_rfl
theorem fo92_1 : fieldOff Try.prog 92 1 = some 1 := by kernel_rfl
theorem fo92_2 : fieldOff Try.prog 92 2 = some 2 := by kernel_rfl
theorem fo92_3 : fieldOff Try.prog 92 3 = some 3 := by kernel_rfl
theorem fo93_0 : fieldOff Try.prog 93 0 = some 0 := by kernel_rfl
theorem fo93_1 : fieldOff Try.prog 93 1 = some 1 := by kernel_rfl
theorem fo93_2 : fieldOff Try.prog 93 2 = some 2 := by kernel_rfl
theorem fo93_3 : fieldOff Try.prog 93 3 = some 3 := by kernel_rfl
theorem fo94_0 : fieldOff Try.prog 94 0 = some 0 := by kernel_rfl
theorem fo94_1 : fieldOff Try.prog 94 1 = some 1 := by kernel_rfl
theorem fo94_2 : fieldOff Try.prog 94 2 = some 2 := by kernel_rfl
theorem fo94_3 : fieldOff Try.prog 94 3 = some 3 := by kernel_rfl
theorem fo95_0 : fieldOff Try.prog 95 0 = some 0 := by kernel_rfl
theorem fo95_1 : fieldOff Try.prog 95 1 = some 1 := by kernel_rfl
theorem fo95_2 : fieldOff Try.prog 95 2 = some 2 := by kernel_rfl
theorem fo95_3 : fieldOff Try.prog 95 3 = some 3 := by kernel_rfl
theorem fo96_0 : fieldOff Try.prog 96 0 = some 0 := by kernel_rfl
theorem fo96_1 : fieldOff Try.prog 96 1 = some 1 := by kernel_rfl
theorem fo97_0 : fieldOff Try.prog 97 0 = some 0 := by kernel_rfl
theorem fo97_1 : fieldOff Try.prog 97 1 = some 1 := by kernel_rfl
theorem rw102 : (Try.prog.info? 102).map (fun i => (i.zero, i.size, i.bytes)) = some (some (.agg #[.int .i64 0, .int .i64 0, .int .i64 0]), 3, 24) := by kernel_rfl
theorem rw114 : (Try.prog.info? 114).map (fun i => (i.zero, i.size, i.bytes)) = some (some (.agg #[.int .i64 0, .bool false]), 2, 16) := by kernel_rfl
theorem rw117 : (Try.prog.info? 117).map (fun i => (i.zero, i.size, i.bytes)) = some (some (.agg #[.int .i64 0, .int .i64 0, .bool false]), 3, 24) := by kernel_rfl
theorem rw122 : (Try.prog.info? 122).map (fun i => (i.zero, i.size, i.bytes)) = some (some (.agg #[.int .i64 0, .int .i64 0, .int .i64 0, .int .i64 0, .bool false]), 5, 40) := by kernel_rfl
theorem rw128 : (Try.prog.info? 128).map (fun i => (i.zero, i.size, i.bytes)) = some (some (.agg #[.int .i64 0, .int .i64 0, .int .i64 0]), 3, 24) := by kernel_rfl
theorem rw156 : (Try.prog.info? 156).map (fun i => (i.zero, i.size, i.bytes)) = some (some (.agg #[.int .i64 0, .int .i64 0, .bool false]), 3, 24) := by kernel_rfl
theorem rw3 : (Try.prog.info? 3).map (fun i => (i.zero, i.size, i.bytes)) = some (some (.int .i64 0), 1, 8) := by kernel_rfl
theorem rw32 : (Try.prog.info? 32).map (fun i => (i.zero, i.size, i.bytes)) = some (some (.agg #[.bool false, .int .i64 0, .int .i64 0, .int .i64 0, .int .i64 0]), 5, 40) := by kernel_rfl
theorem rw4 : (Try.prog.info? 4).map (fun i => (i.zero, i.size, i.bytes)) = some (some (.bool false), 1, 1) := by kernel_rfl
theorem rw48 : (Try.prog.info? 48).map (fun i => (i.zero, i.size, i.bytes)) = some (some (.agg #[.int .i64 0, .int .i64 0, .int .i64 0, .slice none 0 0, .slice none 0 0, .slice none 0 0, .slice none 0 0, .slice none 0 0, .slice none 0 0, .slice none 0 0, .slice none 0 0, .int .i64 0, .slice none 0 0, .int .i64 0, .slice none 0 0]), 15, 280) := by kernel_rfl
theorem rw52 : (Try.prog.info? 52).map (fun i => (i.zero, i.size, i.bytes)) = some (some (.agg #[.int .i64 0, .slice none 0 0, .int .i64 0]), 3, 40) := by kernel_rfl
theorem rw56 : (Try.prog.info? 56).map (fun i => (i.zero, i.size, i.bytes)) = some (some (.agg #[.bool false, .int .i64 0, .int .i64 0]), 3, 24) := by kernel_rfl
theorem rw75 : (Try.prog.info? 75).map (fun i => (i.zero, i.size, i.bytes)) = some (some (.agg #[.int .i64 0, .slice none 0 0, .slice none 0 0, .int .i64 0, .slice none 0 0, .slice none 0 0, .int .i64 0, .slice none 0 0, .slice none 0 0, .int .i64 0, .slice none 0 0]), 11, 200) := by kernel_rfl
theorem rw81 : (Try.prog.info? 81).map (fun i => (i.zero, i.size, i.bytes)) = some (some (.agg #[.int .i64 0, .int .i64 0, .bool false, .int .i64 0, .int .i64 0, .int .i64 0, .int .i64 0, .int .i64 0, .int .i64 0, .int .i64 0, .int .i64 0, .int .i64 0, .int .i64 0, .int .i64 0, .bool false, .int .i64 0, .int .i64 0, .int .i64 0]), 18, 144) := by kernel_rfl
theorem rw89 : (Try.prog.info? 89).map (fun i => (i.zero, i.size, i.bytes)) = some (some (.slice none 0 0), 1, 24) := by kernel_rfl
theorem rw91 : (Try.prog.info? 91).map (fun i => (i.zero, i.size, i.bytes)) = some (some (.agg #[.bool false, .int .i64 0, .slice none 0 0]), 3, 40) := by kernel_rfl
theorem rw93 : (Try.prog.info? 93).map (fun i => (i.zero, i.size, i.bytes)) = some (some (.agg #[.int .i64 0, .bool false, .slice none 0 0, .slice none 0 0]), 4, 64) := by kernel_rfl
theorem rw95 : (Try.prog.info? 95).map (fun i => (i.zero, i.size, i.bytes)) = some (some (.agg #[.int .i64 0, .int .i64 0, .bool false, .slice none 0 0]), 4, 48) := by kernel_rfl
theorem rw97 : (Try.prog.info? 97).map (fun i => (i.zero, i.size, i.bytes)) = some (some (.agg #[.bool false, .slice none 0 0]), 2, 32) := by kernel_rfl
theorem sz1 : szOf Try.prog 1 = some 1 := by kernel_rfl
theorem sz100 : szOf Try.prog 100 = some 1 := by kernel_rfl
theorem sz101 : szOf Try.prog 101 = some 3 := by kernel_rfl
theorem sz102 : szOf Try.prog 102 = some 3 := by kernel_rfl
theorem sz103 : szOf Try.prog 103 = some 1 := by kernel_rfl
theorem sz104 : szOf Try.prog 104 = some 1 := by kernel_rfl
theorem sz105 : szOf Try.prog 105 = some 1 := by kernel_rfl
theorem sz106 : szOf Try.prog 106 = some 1 := by kernel_rfl
theorem sz107 : szOf Try.prog 107 = some 1 := by kernel_rfl
theorem sz109 : szOf Try.prog 109 = some 1 := by kernel_rfl
theorem sz110 : szOf Try.prog 110 = some 1 := by kernel_rfl
theorem sz111 : szOf Try.prog 111 = some 1 := by kernel_rfl
theorem sz112 : szOf Try.prog 112 = some 1 := by kernel_rfl
theorem sz113 : szOf Try.prog 113 = some 2 := by kernel_rfl
theorem sz114 : szOf Try.prog 114 = some 2 := by kernel_rfl
theorem sz115 : szOf Try.prog 115 = some 1 := by kernel_rfl
theorem sz116 : szOf Try.prog 116 = some 3 := by kernel_rfl
theorem sz117 : szOf Try.prog 117 = some 3 := by kernel_rfl
theorem sz118 : szOf Try.prog 118 = some 1 := by kernel_rfl
theorem sz119 : szOf Try.prog 119 = some 1 := by kernel_rfl
theorem sz12 : szOf Try.prog 12 = some 1 := by kernel_rfl
theorem sz120 : szOf Try.prog 120 = some 1 := by kernel_rfl
theorem sz121 : szOf Try.prog 121 = some 5 := by kernel_rfl
theorem sz122 : szOf Try.prog 122 = some 5 := by kernel_rfl
theorem sz123 : szOf Try.prog 123 = some 1 := by kernel_rfl
theorem sz124 : szOf Try.prog 124 = some 1 := by kernel_rfl
theorem sz125 : szOf Try.prog 125 = some 1 := by kernel_rfl
theorem sz126 : szOf Try.prog 126 = some 1 := by kernel_rfl
theorem sz127 : szOf Try.prog 127 = some 3 := by kernel_rfl
theorem sz128 : szOf Try.prog 128 = some 3 := by kernel_rfl
theorem sz129 : szOf Try.prog 129 = some 1 := by kernel_rfl
theorem sz13 : szOf Try.prog 13 = some 2 := by kernel_rfl
theorem sz130 : szOf Try.prog 130 = some 1 := by kernel_rfl
theorem sz131 : szOf Try.prog 131 = some 1 := by kernel_rfl
theorem sz132 : szOf Try.prog 132 = some 3 := by kernel_rfl
theorem sz133 : szOf Try.prog 133 = some 3 := by kernel_rfl
theorem sz134 : szOf Try.prog 134 = some 1 := by kernel_rfl
theorem sz135 : szOf Try.prog 135 = some 1 := by kernel_rfl
theorem sz136 : szOf Try.prog 136 = some 1 := by kernel_rfl
theorem sz137 : szOf Try.prog 137 = some 1 := by kernel_rfl
theorem sz138 : szOf Try.prog 138 = some 1 := by kernel_rfl
theorem sz139 : szOf Try.prog 139 = some 1 := by kernel_rfl
theorem sz14 : szOf Try.prog 14 = some 2 := by kernel_rfl
theorem sz140 : szOf Try.prog 140 = some 1 := by kernel_rfl
theorem sz141 : szOf Try.prog 141 = some 1 := by kernel_rfl
theorem sz142 : szOf Try.prog 142 = some 1 := by kernel_rfl
theorem sz143 : szOf Try.prog 143 = some 1 := by kernel_rfl
theorem sz144 : szOf Try.prog 144 = some 1 := by kernel_rfl
theorem sz145 : szOf Try.prog 145 = some 1 := by kernel_rfl
theorem sz146 : szOf Try.prog 146 = some 1 := by kernel_rfl
theorem sz147 : szOf Try.prog 147 = some 1 := by kernel_rfl
theorem sz148 : szOf Try.prog 148 = some 1 := by kernel_rfl
theorem sz149 : szOf Try.prog 149 = some 1 := by kernel_rfl
theorem sz15 : szOf Try.prog 15 = some 1 := by kernel_rfl
theorem sz150 : szOf Try.prog 150 = some 1 := by kernel_rfl
theorem sz151 : szOf Try.prog 151 = some 1 := by kernel_rfl
theorem sz152 : szOf Try.prog 152 = some 1 := by kernel_rfl
theorem sz153 : szOf Try.prog 153 = some 1 := by kernel_rfl
theorem sz154 : szOf Try.prog 154 = some 1 := by kernel_rfl
theorem sz155 : szOf Try.prog 155 = some 3 := by kernel_rfl
theorem sz156 : szOf Try.prog 156 = some 3 := by kernel_rfl
theorem sz157 : szOf Try.prog 157 = some 1 := by kernel_rfl
theorem sz158 : szOf Try.prog 158 = some 1 := by kernel_rfl
theorem sz159 : szOf Try.prog 159 = some 1 := by kernel_rfl
theorem sz16 : szOf Try.prog 16 = some 1 := by kernel_rfl
theorem sz160 : szOf Try.prog 160 = some 1 := by kernel_rfl
theorem sz161 : szOf Try.prog 161 = some 1 := by kernel_rfl
theorem sz162 : szOf Try.prog 162 = some 1 := by kernel_rfl
theorem sz163 : szOf Try.prog 163 = some 1 := by kernel_rfl
theorem sz164 : szOf Try.prog 164 = some 1 := by kernel_rfl
theorem sz165 : szOf Try.prog 165 = some 1 := by kernel_rfl
theorem sz166 : szOf Try.prog 166 = some 1 := by kernel_rfl
theorem sz167 : szOf Try.prog 167 = some 1 := by kernel_rfl
theorem sz168 : szOf Try.prog 168 = some 1 := by kernel_rfl
theorem sz169 : szOf Try.prog 169 = some 1 := by kernel_rfl
theorem sz17 : szOf Try.prog 17 = some 1 := by kernel_rfl
theorem sz170 : szOf Try.prog 170 = some 1 := by kernel_rfl
theorem sz171 : szOf Try.prog 171 = some 1 := by kernel_rfl
theorem sz172 : szOf Try.prog 172 = some 1 := by kernel_rfl
theorem sz173 : szOf Try.prog 173 = some 1 := by kernel_rfl
theorem sz174 : szOf Try.prog 174 = some 1 := by kernel_rfl
theorem sz175 : szOf Try.prog 175 = some 1 := by kernel_rfl
theorem sz176 : szOf Try.prog 176 = some 1 := by kernel_rfl
theorem sz177 : szOf Try.prog 177 = some 4 := by kernel_rfl
theorem sz178 : szOf Try.prog 178 = some 4 := by kernel_rfl
theorem sz179 : szOf Try.prog 179 = some 0 := by kernel_rfl
theorem sz18 : szOf Try.prog 18 = some 1 := by kernel_rfl
theorem sz180 : szOf Try.prog 180 = some 0 := by kernel_rfl
theorem sz181 : szOf Try.prog 181 = some 0 := by kernel_rfl
theorem sz182 : szOf Try.prog 182 = some 1 := by kernel_rfl
theorem sz183 : szOf Try.prog 183 = some 1 := by kernel_rfl
theorem sz184 : szOf Try.prog 184 = some 1 := by kernel_rfl
theorem sz185 : szOf Try.prog 185 = some 1 := by kernel_rfl
theorem sz186 : szOf Try.prog 186 = some 1 := by kernel_rfl
theorem sz187 : szOf Try.prog 187 = some 1 := by kernel_rfl
theorem sz188 : szOf Try.prog 188 = some 1 := by kernel_rfl
theorem sz189 : szOf Try.prog 189 = some 1 := by kernel_rfl
theorem sz19 : szOf Try.prog 19 = some 1 := by kernel_rfl
theorem sz190 : szOf Try.prog 190 = some 11 := by kernel_rfl
theorem sz191 : szOf Try.prog 191 = some 11 := by kernel_rfl
theorem sz2 : szOf Try.prog 2 = some 1 := by kernel_rfl
theorem sz21 : szOf Try.prog 21 = some 1 := by kernel_rfl
theorem sz22 : szOf Try.prog 22 = some 1 := by kernel_rfl
theorem sz23 : szOf Try.prog 23 = some 1 := by kernel_rfl
theorem sz24 : szOf Try.prog 24 = some 1 := by kernel_rfl
theorem sz25 : szOf Try.prog 25 = some 1 := by kernel_rfl
theorem sz26 : szOf Try.prog 26 = some 6 := by kernel_rfl
theorem sz27 : szOf Try.prog 27 = some 6 := by kernel_rfl
theorem sz28 : szOf Try.prog 28 = some 1 := by kernel_rfl
theorem sz29 : szOf Try.prog 29 = some 1 := by kernel_rfl
theorem sz3 : szOf Try.prog 3 = some 1 := by kernel_rfl
theorem sz30 : szOf Try.prog 30 = some 1 := by kernel_rfl
theorem sz31 : szOf Try.prog 31 = some 5 := by kernel_rfl
theorem sz32 : szOf Try.prog 32 = some 5 := by kernel_rfl
theorem sz33 : szOf Try.prog 33 = some 1 := by kernel_rfl
theorem sz34 : szOf Try.prog 34 = some 1 := by kernel_rfl
theorem sz35 : szOf Try.prog 35 = some 1 := by kernel_rfl
theorem sz36 : szOf Try.prog 36 = some 1 := by kernel_rfl
theorem sz37 : szOf Try.prog 37 = some 1 := by kernel_rfl
theorem sz38 : szOf Try.prog 38 = some 1 := by kernel_rfl
theorem sz39 : szOf Try.prog 39 = some 1 := by kernel_rfl
theorem sz4 : szOf Try.prog 4 = some 1 := by kernel_rfl
theorem sz40 : szOf Try.prog 40 = some 1 := by kernel_rfl
theorem sz41 : szOf Try.prog 41 = some 1 := by kernel_rfl
theorem sz42 : szOf Try.prog 42 = some 1 := by kernel_rfl
theorem sz43 : szOf Try.prog 43 = some 1 := by kernel_rfl
theorem sz44 : szOf Try.prog 44 = some 1 := by kernel_rfl
theorem sz45 : szOf Try.prog 45 = some 3 := by kernel_rfl
theorem sz46 : szOf Try.prog 46 = some 3 := by kernel_rfl
theorem sz47 : szOf Try.prog 47 = some 15 := by kernel_rfl
theorem sz48 : szOf Try.prog 48 = some 15 := by kernel_rfl
theorem sz49 : szOf Try.prog 49 = some 1 := by kernel_rfl
theorem sz5 : szOf Try.prog 5 = some 1 := by kernel_rfl
theorem sz50 : szOf Try.prog 50 = some 1 := by kernel_rfl
theorem sz51 : szOf Try.prog 51 = some 3 := by kernel_rfl
theorem sz52 : szOf Try.prog 52 = some 3 := by kernel_rfl
theorem sz53 : szOf Try.prog 53 = some 1 := by kernel_rfl
theorem sz54 : szOf Try.prog 54 = some 1 := by kernel_rfl
theorem sz55 : szOf Try.prog 55 = some 3 := by kernel_rfl
theorem sz56 : szOf Try.prog 56 = some 3 := by kernel_rfl
theorem sz57 : szOf Try.prog 57 = some 1 := by kernel_rfl
theorem sz58 : szOf Try.prog 58 = some 1 := by kernel_rfl
theorem sz59 : szOf Try.prog 59 = some 1 := by kernel_rfl
theorem sz6 : szOf Try.prog 6 = some 1 := by kernel_rfl
theorem sz60 : szOf Try.prog 60 = some 1 := by kernel_rfl
theorem sz61 : szOf Try.prog 61 = some 1 := by kernel_rfl
theorem sz62 : szOf Try.prog 62 = some 1 := by kernel_rfl
theorem sz64 : szOf Try.prog 64 = some 1 := by kernel_rfl
theorem sz65 : szOf Try.prog 65 = some 1 := by kernel_rfl
theorem sz66 : szOf Try.prog 66 = some 1 := by kernel_rfl
theorem sz67 : szOf Try.prog 67 = some 1 := by kernel_rfl
theorem sz68 : szOf Try.prog 68 = some 1 := by kernel_rfl
theorem sz69 : szOf Try.prog 69 = some 1 := by kernel_rfl
theorem sz7 : szOf Try.prog 7 = some 4 := by kernel_rfl
theorem sz70 : szOf Try.prog 70 = some 1 := by kernel_rfl
theorem sz71 : szOf Try.prog 71 = some 1 := by kernel_rfl
theorem sz72 : szOf Try.prog 72 = some 1 := by kernel_rfl
theorem sz73 : szOf Try.prog 73 = some 1 := by kernel_rfl
theorem sz74 : szOf Try.prog 74 = some 11 := by kernel_rfl
theorem sz75 : szOf Try.prog 75 = some 11 := by kernel_rfl
theorem sz76 : szOf Try.prog 76 = some 1 := by kernel_rfl
theorem sz77 : szOf Try.prog 77 = some 4 := by kernel_rfl
theorem sz78 : szOf Try.prog 78 = some 5 := by kernel_rfl
theorem sz79 : szOf Try.prog 79 = some 5 := by kernel_rfl
theorem sz8 : szOf Try.prog 8 = some 4 := by kernel_rfl
theorem sz80 : szOf Try.prog 80 = some 18 := by kernel_rfl
theorem sz81 : szOf Try.prog 81 = some 18 := by kernel_rfl
theorem sz82 : szOf Try.prog 82 = some 1 := by kernel_rfl
theorem sz83 : szOf Try.prog 83 = some 1 := by kernel_rfl
theorem sz84 : szOf Try.prog 84 = some 1 := by kernel_rfl
theorem sz85 : szOf Try.prog 85 = some 1 := by kernel_rfl
theorem sz86 : szOf Try.prog 86 = some 1 := by kernel_rfl
theorem sz87 : szOf Try.prog 87 = some 1 := by kernel_rfl
theorem sz88 : szOf Try.prog 88 = some 1 := by kernel_rfl
theorem sz89 : szOf Try.prog 89 = some 1 := by kernel_rfl
theorem sz90 : szOf Try.prog 90 = some 3 := by kernel_rfl
theorem sz91 : szOf Try.prog 91 = some 3 := by kernel_rfl
theorem sz92 : szOf Try.prog 92 = some 4 := by kernel_rfl
theorem sz93 : szOf Try.prog 93 = some 4 := by kernel_rfl
theorem sz94 : szOf Try.prog 94 = some 4 := by kernel_rfl
theorem sz95 : szOf Try.prog 95 = some 4 := by kernel_rfl
theorem sz96 : szOf Try.prog 96 = some 2 := by kernel_rfl
theorem sz97 : szOf Try.prog 97 = some 2 := by kernel_rfl
theorem sz98 : szOf Try.prog 98 = some 1 := by kernel_rfl
theorem sz99 : szOf Try.prog 99 = some 1 := by kernel_rfl
theorem zz1 : zeroOf Try.prog 1 = some [.nilFunc] := by kernel_rfl
theorem zz100 : zeroOf Try.prog 100 = some [.nilFunc] := by kernel_rfl
theorem zz101 : zeroOf Try.prog 101 = some [.int .i64 0, .int .i64 0, .int .i64 0] := by kernel_rfl
theorem zz102 : zeroOf Try.prog 102 = some [.int .i64 0, .int .i64 0, .int .i64 0] := by kernel_rfl
theorem zz103 : zeroOf Try.prog 103 = some [.pointer none] := by kernel_rfl
theorem zz104 : zeroOf Try.prog 104 = some [.nilFunc] := by kernel_rfl
theorem zz105 : zeroOf Try.prog 105 = some [.nilFunc] := by kernel_rfl
theorem zz106 : zeroOf Try.prog 106 = some [.pointer none] := by kernel_rfl
theorem zz107 : zeroOf Try.prog 107 = some [.nilFunc] := by kernel_rfl
theorem zz109 : zeroOf Try.prog 109 = some [.nilFunc] := by kernel_rfl
theorem zz110 : zeroOf Try.prog 110 = some [.nilFunc] := by kernel_rfl
theorem zz111 : zeroOf Try.prog 111 = some [.nilFunc] := by kernel_rfl
theorem zz112 : zeroOf Try.prog 112 = some [.nilFunc] := by kernel_rfl
theorem zz113 : zeroOf Try.prog 113 = some [.int .i64 0, .bool false] := by kernel_rfl
theorem zz114 : zeroOf Try.prog 114 = some [.int .i64 0, .bool false] := by kernel_rfl
theorem zz115 : zeroOf Try.prog 115 = some [.nilFunc] := by kernel_rfl
theorem zz116 : zeroOf Try.prog 116 = some [.int .i64 0, .int .i64 0, .bool false] := by kernel_rfl
theorem zz117 : zeroOf Try.prog 117 = some [.int .i64 0, .int .i64 0, .bool false] := by kernel_rfl
theorem zz118 : zeroOf Try.prog 118 = some [.nilFunc] := by kernel_rfl
theorem zz119 : zeroOf Try.prog 119 = some [.nilFunc] := by kernel_rfl
theorem zz12 : zeroOf Try.prog 12 = some [.int .u64 0] := by kernel_rfl
theorem zz120 : zeroOf Try.prog 120 = some [.nilFunc] := by kernel_rfl
theorem zz121 : zeroOf Try.prog 121 = some [.int .i64 0, .int .i64 0, .int .i64 0, .int .i64 0, .bool false] := by kernel_rfl
theorem zz122 : zeroOf Try.prog 122 = some [.int .i64 0, .int .i64 0, .int .i64 0, .int .i64 0, .bool false] := by kernel_rfl
theorem zz123 : zeroOf Try.prog 123 = some [.nilFunc] := by kernel_rfl
theorem zz124 : zeroOf Try.prog 124 = some [.nilFunc] := by kernel_rfl
theorem zz125 : zeroOf Try.prog 125 = some [.nilFunc] := by kernel_rfl
theorem zz126 : zeroOf Try.prog 126 = some [.nilFunc] := by kernel_rfl
theorem zz127 : zeroOf Try.prog 127 = some [.int .i64 0, .int .i64 0, .int .i64 0] := by kernel_rfl
theorem zz128 : zeroOf Try.prog 128 = some [.int .i64 0, .int .i64 0, .int .i64 0] := by kernel_rfl
theorem zz129 : zeroOf Try.prog 129 = some [.nilFunc] := by kernel_rfl
theorem zz13 : zeroOf Try.prog 13 = some [.string ⟨#[]⟩, .int .u64 0] := by kernel_rfl
theorem zz130 : zeroOf Try.prog 130 = some [.map none] := by kernel_rfl
theorem zz131 : zeroOf Try.prog 131 = some [.nilFunc] := by kernel_rfl
theorem zz132 : zeroOf Try.prog 132 = some [.bool false, .int .i64 0, .int .i64 0] := by kernel_rfl
theorem zz133 : zeroOf Try.prog 133 = some [.bool false, .int .i64 0, .int .i64 0] := by kernel_rfl
theorem zz134 : zeroOf Try.prog 134 = some [.nilFunc] := by kernel_rfl
theorem zz135 : zeroOf Try.prog 135 = some [.nilFunc] := by kernel_rfl
theorem zz136 : zeroOf Try.prog 136 = some [.nilFunc] := by kernel_rfl
theorem zz137 : zeroOf Try.prog 137 = some [.pointer none] := by kernel_rfl
theorem zz138 : zeroOf Try.prog 138 = some [.nilFunc] := by kernel_rfl
theorem zz139 : zeroOf Try.prog 139 = some [.nilFunc] := by kernel_rfl
theorem zz14 : zeroOf Try.prog 14 = some [.string ⟨#[]⟩, .int .u64 0] := by kernel_rfl
theorem zz140 : zeroOf Try.prog 140 = some [.pointer none] := by kernel_rfl
theorem zz141 : zeroOf Try.prog 141 = some [.nilFunc] := by kernel_rfl
theorem zz142 : zeroOf Try.prog 142 = some [.nilFunc] := by kernel_rfl
theorem zz143 : zeroOf Try.prog 143 = some [.nilFunc] := by kernel_rfl
theorem zz144 : zeroOf Try.prog 144 = some [.pointer none] := by kernel_rfl
theorem zz145 : zeroOf Try.prog 145 = some [.nilFunc] := by kernel_rfl
theorem zz146 : zeroOf Try.prog 146 = some [.nilFunc] := by kernel_rfl
theorem zz147 : zeroOf Try.prog 147 = some [.pointer none] := by kernel_rfl
theorem zz148 : zeroOf Try.prog 148 = some [.nilFunc] := by kernel_rfl
theorem zz149 : zeroOf Try.prog 149 = some [.nilFunc] := by kernel_rfl
theorem zz15 : zeroOf Try.prog 15 = some [.pointer none] := by kernel_rfl
theorem zz150 : zeroOf Try.prog 150 = some [.nilFunc] := by kernel_rfl
theorem zz151 : zeroOf Try.prog 151 = some [.nilFunc] := by kernel_rfl
theorem zz152 : zeroOf Try.prog 152 = some [.nilFunc] := by kernel_rfl
theorem zz153 : zeroOf Try.prog 153 = some [.nilFunc] := by kernel_rfl
theorem zz154 : zeroOf Try.prog 154 = some [.nilFunc] := by kernel_rfl
theorem zz155 : zeroOf Try.prog 155 = some [.int .i64 0, .int .i64 0, .bool false] := by kernel_rfl
theorem zz156 : zeroOf Try.prog 156 = some [.int .i64 0, .int .i64 0, .bool false] := by kernel_rfl
theorem zz157 : zeroOf Try.prog 157 = some [.nilFunc] := by kernel_rfl
theorem zz158 : zeroOf Try.prog 158 = some [.nilFunc] := by kernel_rfl
theorem zz159 : zeroOf Try.prog 159 = some [.nilFunc] := by kernel_rfl
theorem zz16 : zeroOf Try.prog 16 = some [.pointer none] := by kernel_rfl
theorem zz160 : zeroOf Try.prog 160 = some [.nilFunc] := by kernel_rfl
theorem zz161 : zeroOf Try.prog 161 = some [.nilFunc] := by kernel_rfl
theorem zz162 : zeroOf Try.prog 162 = some [.nilFunc] := by kernel_rfl
theorem zz163 : zeroOf Try.prog 163 = some [.nilFunc] := by kernel_rfl
theorem zz164 : zeroOf Try.prog 164 = some [.nilFunc] := by kernel_rfl
theorem zz165 : zeroOf Try.prog 165 = some [.nilFunc] := by kernel_rfl
theorem zz166 : zeroOf Try.prog 166 = some [.nilFunc] := by kernel_rfl
theorem zz167 : zeroOf Try.prog 167 = some [.nilFunc] := by kernel_rfl
theorem zz168 : zeroOf Try.prog 168 = some [.nilFunc] := by kernel_rfl
theorem zz169 : zeroOf Try.prog 169 = some [.nilFunc] := by kernel_rfl
theorem zz17 : zeroOf Try.prog 17 = some [.pointer none] := by kernel_rfl
theorem zz170 : zeroOf Try.prog 170 = some [.nilFunc] := by kernel_rfl
theorem zz171 : zeroOf Try.prog 171 = some [.nilFunc] := by kernel_rfl
theorem zz172 : zeroOf Try.prog 172 = some [.nilFunc] := by kernel_rfl
theorem zz173 : zeroOf Try.prog 173 = some [.nilFunc] := by kernel_rfl
theorem zz174 : zeroOf Try.prog 174 = some [.nilFunc] := by kernel_rfl
theorem zz175 : zeroOf Try.prog 175 = some [.nilFunc] := by kernel_rfl
theorem zz176 : zeroOf Try.prog 176 = some [.nilFunc] := by kernel_rfl
theorem zz177 : zeroOf Try.prog 177 = some [.pointer none, .pointer none, .pointer none, .string ⟨#[]⟩] := by kernel_rfl
theorem zz178 : zeroOf Try.prog 178 = some [.pointer none, .pointer none, .pointer none, .string ⟨#[]⟩] := by kernel_rfl
theorem zz179 : zeroOf Try.prog 179 = some [] := by kernel_rfl
theorem zz18 : zeroOf Try.prog 18 = some [.pointer none] := by kernel_rfl
theorem zz180 : zeroOf Try.prog 180 = some [] := by kernel_rfl
theorem zz181 : zeroOf Try.prog 181 = some [] := by kernel_rfl
theorem zz182 : zeroOf Try.prog 182 = some [.nilFunc] := by kernel_rfl
theorem zz183 : zeroOf Try.prog 183 = some [.int .u32 0] := by kernel_rfl
theorem zz184 : zeroOf Try.prog 184 = some [.int .u8 0] := by kernel_rfl
theorem zz185 : zeroOf Try.prog 185 = some [.int .u8 0] := by kernel_rfl
theorem zz186 : zeroOf Try.prog 186 = some [.nilFunc] := by kernel_rfl
theorem zz187 : zeroOf Try.prog 187 = some [.pointer none] := by kernel_rfl
theorem zz188 : zeroOf Try.prog 188 = some [.int .i32 0] := by kernel_rfl
theorem zz189 : zeroOf Try.prog 189 = some [.int .i32 0] := by kernel_rfl
theorem zz19 : zeroOf Try.prog 19 = some [.pointer none] := by kernel_rfl
theorem zz190 : zeroOf Try.prog 190 = some [.int .u64 0, .int .u64 0, .int .u32 0, .int .u8 0, .int .u8 0, .int .u8 0, .int .u8 0, .nilFunc, .pointer none, .int .i32 0, .int .i32 0] := by kernel_rfl
theorem zz191 : zeroOf Try.prog 191 = some [.int .u64 0, .int .u64 0, .int .u32 0, .int .u8 0, .int .u8 0, .int .u8 0, .int .u8 0, .nilFunc, .pointer none, .int .i32 0, .int .i32 0] := by kernel_rfl
theorem zz2 : zeroOf Try.prog 2 = some [.int .i64 0] := by kernel_rfl
theorem zz21 : zeroOf Try.prog 21 = some [.int .i32 0] := by kernel_rfl
theorem zz22 : zeroOf Try.prog 22 = some [.slice none 0 0] := by kernel_rfl
theorem zz23 : zeroOf Try.prog 23 = some [.slice none 0 0] := by kernel_rfl
theorem zz24 : zeroOf Try.prog 24 = some [.slice none 0 0] := by kernel_rfl
theorem zz25 : zeroOf Try.prog 25 = some [.slice none 0 0] := by kernel_rfl
theorem zz26 : zeroOf Try.prog 26 = some [.int .i64 0, .int .i64 0, .slice none 0 0, .slice none 0 0, .slice none 0 0, .slice none 0 0] := by kernel_rfl
theorem zz27 : zeroOf Try.prog 27 = some [.int .i64 0, .int .i64 0, .slice none 0 0, .slice none 0 0, .slice none 0 0, .slice none 0 0] := by kernel_rfl
theorem zz28 : zeroOf Try.prog 28 = some [.slice none 0 0] := by kernel_rfl
theorem zz29 : zeroOf Try.prog 29 = some [.nilFunc] := by kernel_rfl
theorem zz3 : zeroOf Try.prog 3 = some [.int .i64 0] := by kernel_rfl
theorem zz30 : zeroOf Try.prog 30 = some [.nilFunc] := by kernel_rfl
theorem zz31 : zeroOf Try.prog 31 = some [.bool false, .int .i64 0, .int .i64 0, .int .i64 0, .int .i64 0] := by kernel_rfl
theorem zz32 : zeroOf Try.prog 32 = some [.bool false, .int .i64 0, .int .i64 0, .int .i64 0, .int .i64 0] := by kernel_rfl
theorem zz33 : zeroOf Try.prog 33 = some [.nilFunc] := by kernel_rfl
theorem zz34 : zeroOf Try.prog 34 = some [.nilFunc] := by kernel_rfl
theorem zz35 : zeroOf Try.prog 35 = some [.slice none 0 0] := by kernel_rfl
theorem zz36 : zeroOf Try.prog 36 = some [.nilFunc] := by kernel_rfl
theorem zz37 : zeroOf Try.prog 37 = some [.nilFunc] := by kernel_rfl
theorem zz38 : zeroOf Try.prog 38 = some [.slice none 0 0] := by kernel_rfl
theorem zz39 : zeroOf Try.prog 39 = some [.slice none 0 0] := by kernel_rfl
theorem zz4 : zeroOf Try.prog 4 = some [.bool false] := by kernel_rfl
theorem zz40 : zeroOf Try.prog 40 = some [.slice none 0 0] := by kernel_rfl
theorem zz41 : zeroOf Try.prog 41 = some [.slice none 0 0] := by kernel_rfl
theorem zz42 : zeroOf Try.prog 42 = some [.slice none 0 0] := by kernel_rfl
theorem zz43 : zeroOf Try.prog 43 = some [.slice none 0 0] := by kernel_rfl
theorem zz44 : zeroOf Try.prog 44 = some [.slice none 0 0] := by kernel_rfl
theorem zz45 : zeroOf Try.prog 45 = some [.int .i64 0, .slice none 0 0, .int .i64 0] := by kernel_rfl
theorem zz46 : zeroOf Try.prog 46 = some [.int .i64 0, .slice none 0 0, .int .i64 0] := by kernel_rfl
theorem zz47 : zeroOf Try.prog 47 = some [.int .i64 0, .int .i64 0, .int .i64 0, .slice none 0 0, .slice none 0 0, .slice none 0 0, .slice none 0 0, .slice none 0 0, .slice none 0 0, .slice none 0 0, .slice none 0 0, .int .i64 0, .slice none 0 0, .int .i64 0, .slice none 0 0] := by kernel_rfl
theorem zz48 : zeroOf Try.prog 48 = some [.int .i64 0, .int .i64 0, .int .i64 0, .slice none 0 0, .slice none 0 0, .slice none 0 0, .slice none 0 0, .slice none 0 0, .slice none 0 0, .slice none 0 0, .slice none 0 0, .int .i64 0, .slice none 0 0, .int .i64 0, .slice none 0 0] := by kernel_rfl
theorem zz49 : zeroOf Try.prog 49 = some [.nilFunc] := by kernel_rfl
theorem zz5 : zeroOf Try.prog 5 = some [.int .u8 0] := by kernel_rfl
theorem zz50 : zeroOf Try.prog 50 = some [.nilFunc] := by kernel_rfl
theorem zz51 : zeroOf Try.prog 51 = some [.int .i64 0, .slice none 0 0, .int .i64 0] := by kernel_rfl
theorem zz52 : zeroOf Try.prog 52 = some [.int .i64 0, .slice none 0 0, .int .i64 0] := by kernel_rfl
theorem zz53 : zeroOf Try.prog 53 = some [.nilFunc] := by kernel_rfl
theorem zz54 : zeroOf Try.prog 54 = some [.nilFunc] := by kernel_rfl
theorem zz55 : zeroOf Try.prog 55 = some [.bool false, .int .i64 0, .int .i64 0] := by kernel_rfl
theorem zz56 : zeroOf Try.prog 56 = some [.bool false, .int .i64 0, .int .i64 0] := by kernel_rfl
theorem zz57 : zeroOf Try.prog 57 = some [.nilFunc] := by kernel_rfl
theorem zz58 : zeroOf Try.prog 58 = some [.nilFunc] := by kernel_rfl
theorem zz59 : zeroOf Try.prog 59 = some [.pointer none] := by kernel_rfl
theorem zz6 : zeroOf Try.prog 6 = some [.int .u8 0] := by kernel_rfl
theorem zz60 : zeroOf Try.prog 60 = some [.nilFunc] := by kernel_rfl
theorem zz61 : zeroOf Try.prog 61 = some [.nilFunc] := by kernel_rfl
theorem zz62 : zeroOf Try.prog 62 = some [.nilFunc] := by kernel_rfl
theorem zz64 : zeroOf Try.prog 64 = some [.nilFunc] := by kernel_rfl
theorem zz65 : zeroOf Try.prog 65 = some [.nilFunc] := by kernel_rfl
theorem zz66 : zeroOf Try.prog 66 = some [.nilFunc] := by kernel_rfl
theorem zz67 : zeroOf Try.prog 67 = some [.nilFunc] := by kernel_rfl
theorem zz68 : zeroOf Try.prog 68 = some [.pointer none] := by kernel_rfl
theorem zz69 : zeroOf Try.prog 69 = some [.nilFunc] := by kernel_rfl
theorem zz7 : zeroOf Try.prog 7 = some [.int .i64 0, .int .i64 0, .bool false, .int .u8 0] := by kernel_rfl
theorem zz70 : zeroOf Try.prog 70 = some [.slice none 0 0] := by kernel_rfl
theorem zz71 : zeroOf Try.prog 71 = some [.slice none 0 0] := by kernel_rfl
theorem zz72 : zeroOf Try.prog 72 = some [.slice none 0 0] := by kernel_rfl
theorem zz73 : zeroOf Try.prog 73 = some [.slice none 0 0] := by kernel_rfl
theorem zz74 : zeroOf Try.prog 74 = some [.int .i64 0, .slice none 0 0, .slice none 0 0, .int .i64 0, .slice none 0 0, .slice none 0 0, .int .i64 0, .slice none 0 0, .slice none 0 0, .int .i64 0, .slice none 0 0] := by kernel_rfl
theorem zz75 : zeroOf Try.prog 75 = some [.int .i64 0, .slice none 0 0, .slice none 0 0, .int .i64 0, .slice none 0 0, .slice none 0 0, .int .i64 0, .slice none 0 0, .slice none 0 0, .int .i64 0, .slice none 0 0] := by kernel_rfl
theorem zz76 : zeroOf Try.prog 76 = some [.map none] := by kernel_rfl
theorem zz77 : zeroOf Try.prog 77 = some [.int .i64 0, .int .i64 0, .int .i64 0, .int .i64 0] := by kernel_rfl
theorem zz78 : zeroOf Try.prog 78 = some [.int .i64 0, .int .i64 0, .int .i64 0, .int .i64 0, .int .i64 0] := by kernel_rfl
theorem zz79 : zeroOf Try.prog 79 = some [.int .i64 0, .int .i64 0, .int .i64 0, .int .i64 0, .int .i64 0] := by kernel_rfl
theorem zz8 : zeroOf Try.prog 8 = some [.int .i64 0, .int .i64 0, .bool false, .int .u8 0] := by kernel_rfl
theorem zz80 : zeroOf Try.prog 80 = some [.int .i64 0, .int .i64 0, .bool false, .int .i64 0, .int .i64 0, .int .i64 0, .int .i64 0, .int .i64 0, .int .i64 0, .int .i64 0, .int .i64 0, .int .i64 0, .int .i64 0, .int .i64 0, .bool false, .int .i64 0, .int .i64 0, .int .i64 0] := by kernel_rfl
theorem zz81 : zeroOf Try.prog 81 = some [.int .i64 0, .int .i64 0, .bool false, .int .i64 0, .int .i64 0, .int .i64 0, .int .i64 0, .int .i64 0, .int .i64 0, .int .i64 0, .int .i64 0, .int .i64 0, .int .i64 0, .int .i64 0, .bool false, .int .i64 0, .int .i64 0, .int .i64 0] := by kernel_rfl
theorem zz82 : zeroOf Try.prog 82 = some [.nilFunc] := by kernel_rfl
theorem zz83 : zeroOf Try.prog 83 = some [.nilFunc] := by kernel_rfl
theorem zz84 : zeroOf Try.prog 84 = some [.nilFunc] := by kernel_rfl
theorem zz85 : zeroOf Try.prog 85 = some [.nilFunc] := by kernel_rfl
theorem zz86 : zeroOf Try.prog 86 = some [.nilFunc] := by kernel_rfl
theorem zz87 : zeroOf Try.prog 87 = some [.nilFunc] := by kernel_rfl
theorem zz88 : zeroOf Try.prog 88 = some [.slice none 0 0] := by kernel_rfl
theorem zz89 : zeroOf Try.prog 89 = some [.slice none 0 0] := by kernel_rfl
theorem zz90 : zeroOf Try.prog 90 = some [.bool false, .int .i64 0, .slice none 0 0] := by kernel_rfl
theorem zz91 : zeroOf Try.prog 91 = some [.bool false, .int .i64 0, .slice none 0 0] := by kernel_rfl
theorem zz92 : zeroOf Try.prog 92 = some [.int .i64 0, .bool false, .slice none 0 0, .slice none 0 0] := by kernel_rfl
theorem zz93 : zeroOf Try.prog 93 = some [.int .i64 0, .bool false, .slice none 0 0, .slice none 0 0] := by kernel_rfl
theorem zz94 : zeroOf Try.prog 94 = some [.int .i64 0, .int .i64 0, .bool false, .slice none 0 0] := by kernel_rfl
theorem zz95 : zeroOf Try.prog 95 = some [.int .i64 0, .int .i64 0, .bool false, .slice none 0 0] := by kernel_rfl
theorem zz96 : zeroOf Try.prog 96 = some [.bool false, .slice none 0 0] := by kernel_rfl
theorem zz97 : zeroOf Try.prog 97 = some [.bool false, .slice none 0 0] := by kernel_rfl
theorem zz98 : zeroOf Try.prog 98 = some [.nilFunc] := by kernel_rfl
theorem zz99 : zeroOf Try.prog 99 = some [.nilFunc] := by kernel_rfl
end Go.Proofs.Ytfhghnhgcdiknaa
