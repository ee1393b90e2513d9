import Derived.Test.YtjdnflhejfcgdaaDoorK1
import Derived.Test.YtjdnflhejfcgdaaDoorChecked
import Derived.Test.YtjdnflhejfcgdaaDoorRows
import Derived.Lib.SmallJoins
import Derived.LaidMore
import Derived.MakeChecks
import Derived.Stop.Joined

/-
  WRITTEN BY PROGRAM (gen_facts.py): facts of the loaded program, as instances.
-/
namespace Go.Proofs.YtjdnflhejfcgdaaDoor
open Go Go.SL Go.Proofs
instance in0 : NotIface Tryd.prog 0 := ⟨_, Tryd.underlying0, rfl⟩
instance is0 : SizeC Tryd.prog 0 1 := ⟨Tryd.sizeOf0⟩
instance ia0 : AggC Tryd.prog 0 false := ⟨Tryd.isAgg0⟩
instance iz0 : ZeroC Tryd.prog 0 (Value.tuple #[]) := ⟨Tryd.zeroValue0⟩
instance in1 : NotIface Tryd.prog 1 := ⟨_, Tryd.underlying1, rfl⟩
instance is1 : SizeC Tryd.prog 1 1 := ⟨Tryd.sizeOf1⟩
instance ia1 : AggC Tryd.prog 1 false := ⟨Tryd.isAgg1⟩
instance iz1 : ZeroC Tryd.prog 1 (Value.nilFunc) := ⟨Tryd.zeroValue1⟩
instance iu2 : Und Tryd.prog 2 (TypeDesc.int IntKind.i64) := ⟨Tryd.underlying2⟩
instance in2 : NotIface Tryd.prog 2 := ⟨_, Tryd.underlying2, rfl⟩
instance is2 : SizeC Tryd.prog 2 1 := ⟨Tryd.sizeOf2⟩
instance ia2 : AggC Tryd.prog 2 false := ⟨Tryd.isAgg2⟩
instance iz2 : ZeroC Tryd.prog 2 (Value.int IntKind.i64 0) := ⟨Tryd.zeroValue2⟩
instance iu3 : Und Tryd.prog 3 (TypeDesc.int IntKind.i64) := ⟨Tryd.underlying3⟩
instance in3 : NotIface Tryd.prog 3 := ⟨_, Tryd.underlying3, rfl⟩
instance is3 : SizeC Tryd.prog 3 1 := ⟨Tryd.sizeOf3⟩
instance ia3 : AggC Tryd.prog 3 false := ⟨Tryd.isAgg3⟩
instance iz3 : ZeroC Tryd.prog 3 (Value.int IntKind.i64 0) := ⟨Tryd.zeroValue3⟩
instance iu4 : Und Tryd.prog 4 (TypeDesc.bool) := ⟨Tryd.underlying4⟩
instance in4 : NotIface Tryd.prog 4 := ⟨_, Tryd.underlying4, rfl⟩
instance is4 : SizeC Tryd.prog 4 1 := ⟨Tryd.sizeOf4⟩
instance ia4 : AggC Tryd.prog 4 false := ⟨Tryd.isAgg4⟩
instance iz4 : ZeroC Tryd.prog 4 (Value.bool false) := ⟨Tryd.zeroValue4⟩
instance iu5 : Und Tryd.prog 5 (TypeDesc.int IntKind.u8) := ⟨Tryd.underlying5⟩
instance in5 : NotIface Tryd.prog 5 := ⟨_, Tryd.underlying5, rfl⟩
instance is5 : SizeC Tryd.prog 5 1 := ⟨Tryd.sizeOf5⟩
instance ia5 : AggC Tryd.prog 5 false := ⟨Tryd.isAgg5⟩
instance iz5 : ZeroC Tryd.prog 5 (Value.int IntKind.u8 0) := ⟨Tryd.zeroValue5⟩
instance iu6 : Und Tryd.prog 6 (TypeDesc.int IntKind.u8) := ⟨Tryd.underlying6⟩
instance in6 : NotIface Tryd.prog 6 := ⟨_, Tryd.underlying6, rfl⟩
instance is6 : SizeC Tryd.prog 6 1 := ⟨Tryd.sizeOf6⟩
instance ia6 : AggC Tryd.prog 6 false := ⟨Tryd.isAgg6⟩
instance iz6 : ZeroC Tryd.prog 6 (Value.int IntKind.u8 0) := ⟨Tryd.zeroValue6⟩
instance in7 : NotIface Tryd.prog 7 := ⟨_, Tryd.underlying7, rfl⟩
instance if7_0 : FieldC Tryd.prog 7 0 0 := ⟨_, _, _, Tryd.underlying7, rfl, rfl, Tryd.sizeOf2, rfl⟩
instance if7_1 : FieldC Tryd.prog 7 1 1 := ⟨_, _, _, Tryd.underlying7, rfl, rfl, Tryd.sizeOf3, rfl⟩
instance if7_2 : FieldC Tryd.prog 7 2 2 := ⟨_, _, _, Tryd.underlying7, rfl, rfl, Tryd.sizeOf4, rfl⟩
instance if7_3 : FieldC Tryd.prog 7 3 3 := ⟨_, _, _, Tryd.underlying7, rfl, rfl, Tryd.sizeOf6, rfl⟩
instance ib7 : BuildC Tryd.prog 7 #[(0, 1), (1, 1), (2, 1), (3, 1)] := ⟨_, Tryd.underlying7, fun w => by simp [Tryd.sizeOf2, Tryd.sizeOf3, Tryd.sizeOf4, Tryd.sizeOf6]⟩
instance is7 : SizeC Tryd.prog 7 4 := ⟨Tryd.sizeOf7⟩
instance ia7 : AggC Tryd.prog 7 true := ⟨Tryd.isAgg7⟩
instance iz7 : ZeroC Tryd.prog 7 (Value.agg #[Value.int IntKind.i64 0, Value.int IntKind.i64 0, Value.bool false, Value.int IntKind.u8 0]) := ⟨Tryd.zeroValue7⟩
instance in8 : NotIface Tryd.prog 8 := ⟨_, Tryd.underlying8, rfl⟩
instance if8_0 : FieldC Tryd.prog 8 0 0 := ⟨_, _, _, Tryd.underlying8, rfl, rfl, Tryd.sizeOf2, rfl⟩
instance if8_1 : FieldC Tryd.prog 8 1 1 := ⟨_, _, _, Tryd.underlying8, rfl, rfl, Tryd.sizeOf3, rfl⟩
instance if8_2 : FieldC Tryd.prog 8 2 2 := ⟨_, _, _, Tryd.underlying8, rfl, rfl, Tryd.sizeOf4, rfl⟩
instance if8_3 : FieldC Tryd.prog 8 3 3 := ⟨_, _, _, Tryd.underlying8, rfl, rfl, Tryd.sizeOf6, rfl⟩
instance ib8 : BuildC Tryd.prog 8 #[(0, 1), (1, 1), (2, 1), (3, 1)] := ⟨_, Tryd.underlying8, fun w => by simp [Tryd.sizeOf2, Tryd.sizeOf3, Tryd.sizeOf4, Tryd.sizeOf6]⟩
instance is8 : SizeC Tryd.prog 8 4 := ⟨Tryd.sizeOf8⟩
instance ia8 : AggC Tryd.prog 8 true := ⟨Tryd.isAgg8⟩
instance iz8 : ZeroC Tryd.prog 8 (Value.agg #[Value.int IntKind.i64 0, Value.int IntKind.i64 0, Value.bool false, Value.int IntKind.u8 0]) := ⟨Tryd.zeroValue8⟩
instance iu9 : Und Tryd.prog 9 (TypeDesc.string) := ⟨Tryd.underlying9⟩
instance in9 : NotIface Tryd.prog 9 := ⟨_, Tryd.underlying9, rfl⟩
instance is9 : SizeC Tryd.prog 9 1 := ⟨Tryd.sizeOf9⟩
instance ia9 : AggC Tryd.prog 9 false := ⟨Tryd.isAgg9⟩
instance iz9 : ZeroC Tryd.prog 9 (Value.string { data := #[] }) := ⟨Tryd.zeroValue9⟩
instance iu10 : Und Tryd.prog 10 (TypeDesc.string) := ⟨Tryd.underlying10⟩
instance in10 : NotIface Tryd.prog 10 := ⟨_, Tryd.underlying10, rfl⟩
instance is10 : SizeC Tryd.prog 10 1 := ⟨Tryd.sizeOf10⟩
instance ia10 : AggC Tryd.prog 10 false := ⟨Tryd.isAgg10⟩
instance iz10 : ZeroC Tryd.prog 10 (Value.string { data := #[] }) := ⟨Tryd.zeroValue10⟩
instance iu11 : Und Tryd.prog 11 (TypeDesc.string) := ⟨Tryd.underlying11⟩
instance in11 : NotIface Tryd.prog 11 := ⟨_, Tryd.underlying11, rfl⟩
instance is11 : SizeC Tryd.prog 11 1 := ⟨Tryd.sizeOf11⟩
instance ia11 : AggC Tryd.prog 11 false := ⟨Tryd.isAgg11⟩
instance iz11 : ZeroC Tryd.prog 11 (Value.string { data := #[] }) := ⟨Tryd.zeroValue11⟩
instance iu12 : Und Tryd.prog 12 (TypeDesc.int IntKind.u64) := ⟨Tryd.underlying12⟩
instance in12 : NotIface Tryd.prog 12 := ⟨_, Tryd.underlying12, rfl⟩
instance is12 : SizeC Tryd.prog 12 1 := ⟨Tryd.sizeOf12⟩
instance ia12 : AggC Tryd.prog 12 false := ⟨Tryd.isAgg12⟩
instance iz12 : ZeroC Tryd.prog 12 (Value.int IntKind.u64 0) := ⟨Tryd.zeroValue12⟩
instance in13 : NotIface Tryd.prog 13 := ⟨_, Tryd.underlying13, rfl⟩
instance if13_0 : FieldC Tryd.prog 13 0 0 := ⟨_, _, _, Tryd.underlying13, rfl, rfl, Tryd.sizeOf9, rfl⟩
instance if13_1 : FieldC Tryd.prog 13 1 1 := ⟨_, _, _, Tryd.underlying13, rfl, rfl, Tryd.sizeOf12, rfl⟩
instance ib13 : BuildC Tryd.prog 13 #[(0, 1), (1, 1)] := ⟨_, Tryd.underlying13, fun w => by simp [Tryd.sizeOf12, Tryd.sizeOf9]⟩
instance is13 : SizeC Tryd.prog 13 2 := ⟨Tryd.sizeOf13⟩
instance ia13 : AggC Tryd.prog 13 true := ⟨Tryd.isAgg13⟩
instance iz13 : ZeroC Tryd.prog 13 (Value.agg #[Value.string { data := #[] }, Value.int IntKind.u64 0]) := ⟨Tryd.zeroValue13⟩
instance in14 : NotIface Tryd.prog 14 := ⟨_, Tryd.underlying14, rfl⟩
instance if14_0 : FieldC Tryd.prog 14 0 0 := ⟨_, _, _, Tryd.underlying14, rfl, rfl, Tryd.sizeOf9, rfl⟩
instance if14_1 : FieldC Tryd.prog 14 1 1 := ⟨_, _, _, Tryd.underlying14, rfl, rfl, Tryd.sizeOf12, rfl⟩
instance ib14 : BuildC Tryd.prog 14 #[(0, 1), (1, 1)] := ⟨_, Tryd.underlying14, fun w => by simp [Tryd.sizeOf12, Tryd.sizeOf9]⟩
instance is14 : SizeC Tryd.prog 14 2 := ⟨Tryd.sizeOf14⟩
instance ia14 : AggC Tryd.prog 14 true := ⟨Tryd.isAgg14⟩
instance iz14 : ZeroC Tryd.prog 14 (Value.agg #[Value.string { data := #[] }, Value.int IntKind.u64 0]) := ⟨Tryd.zeroValue14⟩
instance iu15 : Und Tryd.prog 15 (TypeDesc.pointer 167) := ⟨Tryd.underlying15⟩
instance in15 : NotIface Tryd.prog 15 := ⟨_, Tryd.underlying15, rfl⟩
instance is15 : SizeC Tryd.prog 15 1 := ⟨Tryd.sizeOf15⟩
instance ia15 : AggC Tryd.prog 15 false := ⟨Tryd.isAgg15⟩
instance iz15 : ZeroC Tryd.prog 15 (Value.pointer Option.none) := ⟨Tryd.zeroValue15⟩
instance iu16 : Und Tryd.prog 16 (TypeDesc.pointer 170) := ⟨Tryd.underlying16⟩
instance in16 : NotIface Tryd.prog 16 := ⟨_, Tryd.underlying16, rfl⟩
instance is16 : SizeC Tryd.prog 16 1 := ⟨Tryd.sizeOf16⟩
instance ia16 : AggC Tryd.prog 16 false := ⟨Tryd.isAgg16⟩
instance iz16 : ZeroC Tryd.prog 16 (Value.pointer Option.none) := ⟨Tryd.zeroValue16⟩
instance iu17 : Und Tryd.prog 17 (TypeDesc.pointer 178) := ⟨Tryd.underlying17⟩
instance in17 : NotIface Tryd.prog 17 := ⟨_, Tryd.underlying17, rfl⟩
instance is17 : SizeC Tryd.prog 17 1 := ⟨Tryd.sizeOf17⟩
instance ia17 : AggC Tryd.prog 17 false := ⟨Tryd.isAgg17⟩
instance iz17 : ZeroC Tryd.prog 17 (Value.pointer Option.none) := ⟨Tryd.zeroValue17⟩
instance in18 : NotIface Tryd.prog 18 := ⟨_, Tryd.underlying18, rfl⟩
instance if18_0 : FieldC Tryd.prog 18 0 0 := ⟨_, _, _, Tryd.underlying18, rfl, rfl, Tryd.sizeOf17, rfl⟩
instance ib18 : BuildC Tryd.prog 18 #[(0, 1)] := ⟨_, Tryd.underlying18, fun w => by simp [Tryd.sizeOf17]⟩
instance is18 : SizeC Tryd.prog 18 1 := ⟨Tryd.sizeOf18⟩
instance ia18 : AggC Tryd.prog 18 true := ⟨Tryd.isAgg18⟩
instance iz18 : ZeroC Tryd.prog 18 (Value.agg #[Value.pointer Option.none]) := ⟨Tryd.zeroValue18⟩
instance in19 : NotIface Tryd.prog 19 := ⟨_, Tryd.underlying19, rfl⟩
instance if19_0 : FieldC Tryd.prog 19 0 0 := ⟨_, _, _, Tryd.underlying19, rfl, rfl, Tryd.sizeOf17, rfl⟩
instance ib19 : BuildC Tryd.prog 19 #[(0, 1)] := ⟨_, Tryd.underlying19, fun w => by simp [Tryd.sizeOf17]⟩
instance is19 : SizeC Tryd.prog 19 1 := ⟨Tryd.sizeOf19⟩
instance ia19 : AggC Tryd.prog 19 true := ⟨Tryd.isAgg19⟩
instance iz19 : ZeroC Tryd.prog 19 (Value.agg #[Value.pointer Option.none]) := ⟨Tryd.zeroValue19⟩
instance is20 : SizeC Tryd.prog 20 1 := ⟨Tryd.sizeOf20⟩
instance ia20 : AggC Tryd.prog 20 false := ⟨Tryd.isAgg20⟩
instance iz20 : ZeroC Tryd.prog 20 (Value.nilIface) := ⟨Tryd.zeroValue20⟩
instance iu21 : Und Tryd.prog 21 (TypeDesc.int IntKind.i32) := ⟨Tryd.underlying21⟩
instance in21 : NotIface Tryd.prog 21 := ⟨_, Tryd.underlying21, rfl⟩
instance is21 : SizeC Tryd.prog 21 1 := ⟨Tryd.sizeOf21⟩
instance ia21 : AggC Tryd.prog 21 false := ⟨Tryd.isAgg21⟩
instance iz21 : ZeroC Tryd.prog 21 (Value.int IntKind.i32 0) := ⟨Tryd.zeroValue21⟩
instance iu22 : Und Tryd.prog 22 (TypeDesc.slice 5) := ⟨Tryd.underlying22⟩
instance in22 : NotIface Tryd.prog 22 := ⟨_, Tryd.underlying22, rfl⟩
instance is22 : SizeC Tryd.prog 22 1 := ⟨Tryd.sizeOf22⟩
instance ia22 : AggC Tryd.prog 22 false := ⟨Tryd.isAgg22⟩
instance iz22 : ZeroC Tryd.prog 22 (Value.slice Option.none 0 0) := ⟨Tryd.zeroValue22⟩
instance in23 : NotIface Tryd.prog 23 := ⟨_, Tryd.underlying23, rfl⟩
instance if23_0 : FieldC Tryd.prog 23 0 0 := ⟨_, _, _, Tryd.underlying23, rfl, rfl, Tryd.sizeOf22, rfl⟩
instance if23_1 : FieldC Tryd.prog 23 1 1 := ⟨_, _, _, Tryd.underlying23, rfl, rfl, Tryd.sizeOf22, rfl⟩
instance if23_2 : FieldC Tryd.prog 23 2 2 := ⟨_, _, _, Tryd.underlying23, rfl, rfl, Tryd.sizeOf5, rfl⟩
instance if23_3 : FieldC Tryd.prog 23 3 3 := ⟨_, _, _, Tryd.underlying23, rfl, rfl, Tryd.sizeOf5, rfl⟩
instance ib23 : BuildC Tryd.prog 23 #[(0, 1), (1, 1), (2, 1), (3, 1)] := ⟨_, Tryd.underlying23, fun w => by simp [Tryd.sizeOf22, Tryd.sizeOf5]⟩
instance is23 : SizeC Tryd.prog 23 4 := ⟨Tryd.sizeOf23⟩
instance ia23 : AggC Tryd.prog 23 true := ⟨Tryd.isAgg23⟩
instance iz23 : ZeroC Tryd.prog 23 (Value.agg #[Value.slice Option.none 0 0, Value.slice Option.none 0 0, Value.int IntKind.u8 0, Value.int IntKind.u8 0]) := ⟨Tryd.zeroValue23⟩
instance in24 : NotIface Tryd.prog 24 := ⟨_, Tryd.underlying24, rfl⟩
instance if24_0 : FieldC Tryd.prog 24 0 0 := ⟨_, _, _, Tryd.underlying24, rfl, rfl, Tryd.sizeOf22, rfl⟩
instance if24_1 : FieldC Tryd.prog 24 1 1 := ⟨_, _, _, Tryd.underlying24, rfl, rfl, Tryd.sizeOf22, rfl⟩
instance if24_2 : FieldC Tryd.prog 24 2 2 := ⟨_, _, _, Tryd.underlying24, rfl, rfl, Tryd.sizeOf5, rfl⟩
instance if24_3 : FieldC Tryd.prog 24 3 3 := ⟨_, _, _, Tryd.underlying24, rfl, rfl, Tryd.sizeOf5, rfl⟩
instance ib24 : BuildC Tryd.prog 24 #[(0, 1), (1, 1), (2, 1), (3, 1)] := ⟨_, Tryd.underlying24, fun w => by simp [Tryd.sizeOf22, Tryd.sizeOf5]⟩
instance is24 : SizeC Tryd.prog 24 4 := ⟨Tryd.sizeOf24⟩
instance ia24 : AggC Tryd.prog 24 true := ⟨Tryd.isAgg24⟩
instance iz24 : ZeroC Tryd.prog 24 (Value.agg #[Value.slice Option.none 0 0, Value.slice Option.none 0 0, Value.int IntKind.u8 0, Value.int IntKind.u8 0]) := ⟨Tryd.zeroValue24⟩
instance iu25 : Und Tryd.prog 25 (TypeDesc.pointer 108) := ⟨Tryd.underlying25⟩
instance in25 : NotIface Tryd.prog 25 := ⟨_, Tryd.underlying25, rfl⟩
instance is25 : SizeC Tryd.prog 25 1 := ⟨Tryd.sizeOf25⟩
instance ia25 : AggC Tryd.prog 25 false := ⟨Tryd.isAgg25⟩
instance iz25 : ZeroC Tryd.prog 25 (Value.pointer Option.none) := ⟨Tryd.zeroValue25⟩
instance iu26 : Und Tryd.prog 26 (TypeDesc.pointer 119) := ⟨Tryd.underlying26⟩
instance in26 : NotIface Tryd.prog 26 := ⟨_, Tryd.underlying26, rfl⟩
instance is26 : SizeC Tryd.prog 26 1 := ⟨Tryd.sizeOf26⟩
instance ia26 : AggC Tryd.prog 26 false := ⟨Tryd.isAgg26⟩
instance iz26 : ZeroC Tryd.prog 26 (Value.pointer Option.none) := ⟨Tryd.zeroValue26⟩
instance iu27 : Und Tryd.prog 27 (TypeDesc.slice 58) := ⟨Tryd.underlying27⟩
instance in27 : NotIface Tryd.prog 27 := ⟨_, Tryd.underlying27, rfl⟩
instance is27 : SizeC Tryd.prog 27 1 := ⟨Tryd.sizeOf27⟩
instance ia27 : AggC Tryd.prog 27 false := ⟨Tryd.isAgg27⟩
instance iz27 : ZeroC Tryd.prog 27 (Value.slice Option.none 0 0) := ⟨Tryd.zeroValue27⟩
instance iu28 : Und Tryd.prog 28 (TypeDesc.slice 66) := ⟨Tryd.underlying28⟩
instance in28 : NotIface Tryd.prog 28 := ⟨_, Tryd.underlying28, rfl⟩
instance is28 : SizeC Tryd.prog 28 1 := ⟨Tryd.sizeOf28⟩
instance ia28 : AggC Tryd.prog 28 false := ⟨Tryd.isAgg28⟩
instance iz28 : ZeroC Tryd.prog 28 (Value.slice Option.none 0 0) := ⟨Tryd.zeroValue28⟩
instance in29 : NotIface Tryd.prog 29 := ⟨_, Tryd.underlying29, rfl⟩
instance is29 : SizeC Tryd.prog 29 1 := ⟨Tryd.sizeOf29⟩
instance ia29 : AggC Tryd.prog 29 false := ⟨Tryd.isAgg29⟩
instance iz29 : ZeroC Tryd.prog 29 (Value.tuple #[Value.pointer Option.none, Value.pointer Option.none, Value.slice Option.none 0 0, Value.slice Option.none 0 0]) := ⟨Tryd.zeroValue29⟩
instance in30 : NotIface Tryd.prog 30 := ⟨_, Tryd.underlying30, rfl⟩
instance is30 : SizeC Tryd.prog 30 1 := ⟨Tryd.sizeOf30⟩
instance ia30 : AggC Tryd.prog 30 false := ⟨Tryd.isAgg30⟩
instance iz30 : ZeroC Tryd.prog 30 (Value.nilFunc) := ⟨Tryd.zeroValue30⟩
instance in31 : NotIface Tryd.prog 31 := ⟨_, Tryd.underlying31, rfl⟩
instance is31 : SizeC Tryd.prog 31 1 := ⟨Tryd.sizeOf31⟩
instance ia31 : AggC Tryd.prog 31 false := ⟨Tryd.isAgg31⟩
instance iz31 : ZeroC Tryd.prog 31 (Value.nilFunc) := ⟨Tryd.zeroValue31⟩
instance iu32 : Und Tryd.prog 32 (TypeDesc.slice 72) := ⟨Tryd.underlying32⟩
instance in32 : NotIface Tryd.prog 32 := ⟨_, Tryd.underlying32, rfl⟩
instance is32 : SizeC Tryd.prog 32 1 := ⟨Tryd.sizeOf32⟩
instance ia32 : AggC Tryd.prog 32 false := ⟨Tryd.isAgg32⟩
instance iz32 : ZeroC Tryd.prog 32 (Value.slice Option.none 0 0) := ⟨Tryd.zeroValue32⟩
instance in33 : NotIface Tryd.prog 33 := ⟨_, Tryd.underlying33, rfl⟩
instance if33_0 : FieldC Tryd.prog 33 0 0 := ⟨_, _, _, Tryd.underlying33, rfl, rfl, Tryd.sizeOf3, rfl⟩
instance if33_1 : FieldC Tryd.prog 33 1 1 := ⟨_, _, _, Tryd.underlying33, rfl, rfl, Tryd.sizeOf3, rfl⟩
instance if33_2 : FieldC Tryd.prog 33 2 2 := ⟨_, _, _, Tryd.underlying33, rfl, rfl, Tryd.sizeOf4, rfl⟩
instance if33_3 : FieldC Tryd.prog 33 3 3 := ⟨_, _, _, Tryd.underlying33, rfl, rfl, Tryd.sizeOf32, rfl⟩
instance ib33 : BuildC Tryd.prog 33 #[(0, 1), (1, 1), (2, 1), (3, 1)] := ⟨_, Tryd.underlying33, fun w => by simp [Tryd.sizeOf3, Tryd.sizeOf32, Tryd.sizeOf4]⟩
instance is33 : SizeC Tryd.prog 33 4 := ⟨Tryd.sizeOf33⟩
instance ia33 : AggC Tryd.prog 33 true := ⟨Tryd.isAgg33⟩
instance iz33 : ZeroC Tryd.prog 33 (Value.agg #[Value.int IntKind.i64 0, Value.int IntKind.i64 0, Value.bool false, Value.slice Option.none 0 0]) := ⟨Tryd.zeroValue33⟩
instance in34 : NotIface Tryd.prog 34 := ⟨_, Tryd.underlying34, rfl⟩
instance if34_0 : FieldC Tryd.prog 34 0 0 := ⟨_, _, _, Tryd.underlying34, rfl, rfl, Tryd.sizeOf3, rfl⟩
instance if34_1 : FieldC Tryd.prog 34 1 1 := ⟨_, _, _, Tryd.underlying34, rfl, rfl, Tryd.sizeOf3, rfl⟩
instance if34_2 : FieldC Tryd.prog 34 2 2 := ⟨_, _, _, Tryd.underlying34, rfl, rfl, Tryd.sizeOf4, rfl⟩
instance if34_3 : FieldC Tryd.prog 34 3 3 := ⟨_, _, _, Tryd.underlying34, rfl, rfl, Tryd.sizeOf32, rfl⟩
instance ib34 : BuildC Tryd.prog 34 #[(0, 1), (1, 1), (2, 1), (3, 1)] := ⟨_, Tryd.underlying34, fun w => by simp [Tryd.sizeOf3, Tryd.sizeOf32, Tryd.sizeOf4]⟩
instance is34 : SizeC Tryd.prog 34 4 := ⟨Tryd.sizeOf34⟩
instance ia34 : AggC Tryd.prog 34 true := ⟨Tryd.isAgg34⟩
instance iz34 : ZeroC Tryd.prog 34 (Value.agg #[Value.int IntKind.i64 0, Value.int IntKind.i64 0, Value.bool false, Value.slice Option.none 0 0]) := ⟨Tryd.zeroValue34⟩
instance iu35 : Und Tryd.prog 35 (TypeDesc.slice 22) := ⟨Tryd.underlying35⟩
instance in35 : NotIface Tryd.prog 35 := ⟨_, Tryd.underlying35, rfl⟩
instance is35 : SizeC Tryd.prog 35 1 := ⟨Tryd.sizeOf35⟩
instance ia35 : AggC Tryd.prog 35 false := ⟨Tryd.isAgg35⟩
instance iz35 : ZeroC Tryd.prog 35 (Value.slice Option.none 0 0) := ⟨Tryd.zeroValue35⟩
instance iu36 : Und Tryd.prog 36 (TypeDesc.slice 9) := ⟨Tryd.underlying36⟩
instance in36 : NotIface Tryd.prog 36 := ⟨_, Tryd.underlying36, rfl⟩
instance is36 : SizeC Tryd.prog 36 1 := ⟨Tryd.sizeOf36⟩
instance ia36 : AggC Tryd.prog 36 false := ⟨Tryd.isAgg36⟩
instance iz36 : ZeroC Tryd.prog 36 (Value.slice Option.none 0 0) := ⟨Tryd.zeroValue36⟩
instance in37 : NotIface Tryd.prog 37 := ⟨_, Tryd.underlying37, rfl⟩
instance is37 : SizeC Tryd.prog 37 1 := ⟨Tryd.sizeOf37⟩
instance ia37 : AggC Tryd.prog 37 false := ⟨Tryd.isAgg37⟩
instance iz37 : ZeroC Tryd.prog 37 (Value.tuple #[Value.agg #[Value.int IntKind.i64 0, Value.int IntKind.i64 0, Value.bool false, Value.slice Option.none 0 0], Value.slice Option.none 0 0, Value.slice Option.none 0 0]) := ⟨Tryd.zeroValue37⟩
instance in38 : NotIface Tryd.prog 38 := ⟨_, Tryd.underlying38, rfl⟩
instance is38 : SizeC Tryd.prog 38 1 := ⟨Tryd.sizeOf38⟩
instance ia38 : AggC Tryd.prog 38 false := ⟨Tryd.isAgg38⟩
instance iz38 : ZeroC Tryd.prog 38 (Value.nilFunc) := ⟨Tryd.zeroValue38⟩
instance iu39 : Und Tryd.prog 39 (TypeDesc.int IntKind.i64) := ⟨Tryd.underlying39⟩
instance in39 : NotIface Tryd.prog 39 := ⟨_, Tryd.underlying39, rfl⟩
instance is39 : SizeC Tryd.prog 39 1 := ⟨Tryd.sizeOf39⟩
instance ia39 : AggC Tryd.prog 39 false := ⟨Tryd.isAgg39⟩
instance iz39 : ZeroC Tryd.prog 39 (Value.int IntKind.i64 0) := ⟨Tryd.zeroValue39⟩
instance in40 : NotIface Tryd.prog 40 := ⟨_, Tryd.underlying40, rfl⟩
instance is40 : SizeC Tryd.prog 40 1 := ⟨Tryd.sizeOf40⟩
instance ia40 : AggC Tryd.prog 40 false := ⟨Tryd.isAgg40⟩
instance iz40 : ZeroC Tryd.prog 40 (Value.nilFunc) := ⟨Tryd.zeroValue40⟩
instance in41 : NotIface Tryd.prog 41 := ⟨_, Tryd.underlying41, rfl⟩
instance is41 : SizeC Tryd.prog 41 1 := ⟨Tryd.sizeOf41⟩
instance ia41 : AggC Tryd.prog 41 false := ⟨Tryd.isAgg41⟩
instance iz41 : ZeroC Tryd.prog 41 (Value.tuple #[Value.agg #[Value.int IntKind.i64 0, Value.int IntKind.i64 0, Value.bool false, Value.slice Option.none 0 0], Value.slice Option.none 0 0, Value.int IntKind.i64 0]) := ⟨Tryd.zeroValue41⟩
instance in42 : NotIface Tryd.prog 42 := ⟨_, Tryd.underlying42, rfl⟩
instance is42 : SizeC Tryd.prog 42 1 := ⟨Tryd.sizeOf42⟩
instance ia42 : AggC Tryd.prog 42 false := ⟨Tryd.isAgg42⟩
instance iz42 : ZeroC Tryd.prog 42 (Value.nilFunc) := ⟨Tryd.zeroValue42⟩
instance in43 : NotIface Tryd.prog 43 := ⟨_, Tryd.underlying43, rfl⟩
instance is43 : SizeC Tryd.prog 43 1 := ⟨Tryd.sizeOf43⟩
instance ia43 : AggC Tryd.prog 43 false := ⟨Tryd.isAgg43⟩
instance iz43 : ZeroC Tryd.prog 43 (Value.nilFunc) := ⟨Tryd.zeroValue43⟩
instance in44 : NotIface Tryd.prog 44 := ⟨_, Tryd.underlying44, rfl⟩
instance is44 : SizeC Tryd.prog 44 1 := ⟨Tryd.sizeOf44⟩
instance ia44 : AggC Tryd.prog 44 false := ⟨Tryd.isAgg44⟩
instance iz44 : ZeroC Tryd.prog 44 (Value.nilFunc) := ⟨Tryd.zeroValue44⟩
instance in45 : NotIface Tryd.prog 45 := ⟨_, Tryd.underlying45, rfl⟩
instance if45_0 : FieldC Tryd.prog 45 0 0 := ⟨_, _, _, Tryd.underlying45, rfl, rfl, Tryd.sizeOf3, rfl⟩
instance if45_1 : FieldC Tryd.prog 45 1 1 := ⟨_, _, _, Tryd.underlying45, rfl, rfl, Tryd.sizeOf3, rfl⟩
instance if45_2 : FieldC Tryd.prog 45 2 2 := ⟨_, _, _, Tryd.underlying45, rfl, rfl, Tryd.sizeOf3, rfl⟩
instance if45_3 : FieldC Tryd.prog 45 3 3 := ⟨_, _, _, Tryd.underlying45, rfl, rfl, Tryd.sizeOf3, rfl⟩
instance ib45 : BuildC Tryd.prog 45 #[(0, 1), (1, 1), (2, 1), (3, 1)] := ⟨_, Tryd.underlying45, fun w => by simp [Tryd.sizeOf3]⟩
instance is45 : SizeC Tryd.prog 45 4 := ⟨Tryd.sizeOf45⟩
instance ia45 : AggC Tryd.prog 45 true := ⟨Tryd.isAgg45⟩
instance iz45 : ZeroC Tryd.prog 45 (Value.agg #[Value.int IntKind.i64 0, Value.int IntKind.i64 0, Value.int IntKind.i64 0, Value.int IntKind.i64 0]) := ⟨Tryd.zeroValue45⟩
instance in46 : NotIface Tryd.prog 46 := ⟨_, Tryd.underlying46, rfl⟩
instance if46_0 : FieldC Tryd.prog 46 0 0 := ⟨_, _, _, Tryd.underlying46, rfl, rfl, Tryd.sizeOf3, rfl⟩
instance if46_1 : FieldC Tryd.prog 46 1 1 := ⟨_, _, _, Tryd.underlying46, rfl, rfl, Tryd.sizeOf3, rfl⟩
instance if46_2 : FieldC Tryd.prog 46 2 2 := ⟨_, _, _, Tryd.underlying46, rfl, rfl, Tryd.sizeOf3, rfl⟩
instance if46_3 : FieldC Tryd.prog 46 3 3 := ⟨_, _, _, Tryd.underlying46, rfl, rfl, Tryd.sizeOf3, rfl⟩
instance ib46 : BuildC Tryd.prog 46 #[(0, 1), (1, 1), (2, 1), (3, 1)] := ⟨_, Tryd.underlying46, fun w => by simp [Tryd.sizeOf3]⟩
instance is46 : SizeC Tryd.prog 46 4 := ⟨Tryd.sizeOf46⟩
instance ia46 : AggC Tryd.prog 46 true := ⟨Tryd.isAgg46⟩
instance iz46 : ZeroC Tryd.prog 46 (Value.agg #[Value.int IntKind.i64 0, Value.int IntKind.i64 0, Value.int IntKind.i64 0, Value.int IntKind.i64 0]) := ⟨Tryd.zeroValue46⟩
instance iu47 : Und Tryd.prog 47 (TypeDesc.slice 3) := ⟨Tryd.underlying47⟩
instance in47 : NotIface Tryd.prog 47 := ⟨_, Tryd.underlying47, rfl⟩
instance is47 : SizeC Tryd.prog 47 1 := ⟨Tryd.sizeOf47⟩
instance ia47 : AggC Tryd.prog 47 false := ⟨Tryd.isAgg47⟩
instance iz47 : ZeroC Tryd.prog 47 (Value.slice Option.none 0 0) := ⟨Tryd.zeroValue47⟩
instance in48 : NotIface Tryd.prog 48 := ⟨_, Tryd.underlying48, rfl⟩
instance is48 : SizeC Tryd.prog 48 1 := ⟨Tryd.sizeOf48⟩
instance ia48 : AggC Tryd.prog 48 false := ⟨Tryd.isAgg48⟩
instance iz48 : ZeroC Tryd.prog 48 (Value.tuple #[Value.slice Option.none 0 0, Value.int IntKind.i64 0]) := ⟨Tryd.zeroValue48⟩
instance in49 : NotIface Tryd.prog 49 := ⟨_, Tryd.underlying49, rfl⟩
instance is49 : SizeC Tryd.prog 49 1 := ⟨Tryd.sizeOf49⟩
instance ia49 : AggC Tryd.prog 49 false := ⟨Tryd.isAgg49⟩
instance iz49 : ZeroC Tryd.prog 49 (Value.nilFunc) := ⟨Tryd.zeroValue49⟩
instance in50 : NotIface Tryd.prog 50 := ⟨_, Tryd.underlying50, rfl⟩
instance is50 : SizeC Tryd.prog 50 1 := ⟨Tryd.sizeOf50⟩
instance ia50 : AggC Tryd.prog 50 false := ⟨Tryd.isAgg50⟩
instance iz50 : ZeroC Tryd.prog 50 (Value.nilFunc) := ⟨Tryd.zeroValue50⟩
instance in51 : NotIface Tryd.prog 51 := ⟨_, Tryd.underlying51, rfl⟩
instance is51 : SizeC Tryd.prog 51 1 := ⟨Tryd.sizeOf51⟩
instance ia51 : AggC Tryd.prog 51 false := ⟨Tryd.isAgg51⟩
instance iz51 : ZeroC Tryd.prog 51 (Value.nilFunc) := ⟨Tryd.zeroValue51⟩
instance in52 : NotIface Tryd.prog 52 := ⟨_, Tryd.underlying52, rfl⟩
instance is52 : SizeC Tryd.prog 52 1 := ⟨Tryd.sizeOf52⟩
instance ia52 : AggC Tryd.prog 52 false := ⟨Tryd.isAgg52⟩
instance iz52 : ZeroC Tryd.prog 52 (Value.nilFunc) := ⟨Tryd.zeroValue52⟩
instance in53 : NotIface Tryd.prog 53 := ⟨_, Tryd.underlying53, rfl⟩
instance is53 : SizeC Tryd.prog 53 1 := ⟨Tryd.sizeOf53⟩
instance ia53 : AggC Tryd.prog 53 false := ⟨Tryd.isAgg53⟩
instance iz53 : ZeroC Tryd.prog 53 (Value.nilFunc) := ⟨Tryd.zeroValue53⟩
instance iu54 : Und Tryd.prog 54 (TypeDesc.array 8 3) := ⟨Tryd.underlying54⟩
instance in54 : NotIface Tryd.prog 54 := ⟨_, Tryd.underlying54, rfl⟩
instance is54 : SizeC Tryd.prog 54 8 := ⟨Tryd.sizeOf54⟩
instance ia54 : AggC Tryd.prog 54 true := ⟨Tryd.isAgg54⟩
instance iz54 : ZeroC Tryd.prog 54 (Value.agg #[Value.int IntKind.i64 0, Value.int IntKind.i64 0, Value.int IntKind.i64 0, Value.int IntKind.i64 0, Value.int IntKind.i64 0, Value.int IntKind.i64 0, Value.int IntKind.i64 0, Value.int IntKind.i64 0]) := ⟨Tryd.zeroValue54⟩
instance in55 : NotIface Tryd.prog 55 := ⟨_, Tryd.underlying55, rfl⟩
instance is55 : SizeC Tryd.prog 55 1 := ⟨Tryd.sizeOf55⟩
instance ia55 : AggC Tryd.prog 55 false := ⟨Tryd.isAgg55⟩
instance iz55 : ZeroC Tryd.prog 55 (Value.tuple #[Value.int IntKind.i64 0, Value.int IntKind.i64 0]) := ⟨Tryd.zeroValue55⟩
instance in56 : NotIface Tryd.prog 56 := ⟨_, Tryd.underlying56, rfl⟩
instance is56 : SizeC Tryd.prog 56 1 := ⟨Tryd.sizeOf56⟩
instance ia56 : AggC Tryd.prog 56 false := ⟨Tryd.isAgg56⟩
instance iz56 : ZeroC Tryd.prog 56 (Value.nilFunc) := ⟨Tryd.zeroValue56⟩
instance in57 : NotIface Tryd.prog 57 := ⟨_, Tryd.underlying57, rfl⟩
instance is57 : SizeC Tryd.prog 57 1 := ⟨Tryd.sizeOf57⟩
instance ia57 : AggC Tryd.prog 57 false := ⟨Tryd.isAgg57⟩
instance iz57 : ZeroC Tryd.prog 57 (Value.nilFunc) := ⟨Tryd.zeroValue57⟩
instance iu58 : Und Tryd.prog 58 (TypeDesc.pointer 100) := ⟨Tryd.underlying58⟩
instance in58 : NotIface Tryd.prog 58 := ⟨_, Tryd.underlying58, rfl⟩
instance is58 : SizeC Tryd.prog 58 1 := ⟨Tryd.sizeOf58⟩
instance ia58 : AggC Tryd.prog 58 false := ⟨Tryd.isAgg58⟩
instance iz58 : ZeroC Tryd.prog 58 (Value.pointer Option.none) := ⟨Tryd.zeroValue58⟩
instance in59 : NotIface Tryd.prog 59 := ⟨_, Tryd.underlying59, rfl⟩
instance is59 : SizeC Tryd.prog 59 1 := ⟨Tryd.sizeOf59⟩
instance ia59 : AggC Tryd.prog 59 false := ⟨Tryd.isAgg59⟩
instance iz59 : ZeroC Tryd.prog 59 (Value.nilFunc) := ⟨Tryd.zeroValue59⟩
instance in60 : NotIface Tryd.prog 60 := ⟨_, Tryd.underlying60, rfl⟩
instance is60 : SizeC Tryd.prog 60 1 := ⟨Tryd.sizeOf60⟩
instance ia60 : AggC Tryd.prog 60 false := ⟨Tryd.isAgg60⟩
instance iz60 : ZeroC Tryd.prog 60 (Value.nilFunc) := ⟨Tryd.zeroValue60⟩
instance in61 : NotIface Tryd.prog 61 := ⟨_, Tryd.underlying61, rfl⟩
instance is61 : SizeC Tryd.prog 61 1 := ⟨Tryd.sizeOf61⟩
instance ia61 : AggC Tryd.prog 61 false := ⟨Tryd.isAgg61⟩
instance iz61 : ZeroC Tryd.prog 61 (Value.tuple #[Value.pointer Option.none, Value.int IntKind.i64 0]) := ⟨Tryd.zeroValue61⟩
instance in62 : NotIface Tryd.prog 62 := ⟨_, Tryd.underlying62, rfl⟩
instance is62 : SizeC Tryd.prog 62 1 := ⟨Tryd.sizeOf62⟩
instance ia62 : AggC Tryd.prog 62 false := ⟨Tryd.isAgg62⟩
instance iz62 : ZeroC Tryd.prog 62 (Value.nilFunc) := ⟨Tryd.zeroValue62⟩
instance in63 : NotIface Tryd.prog 63 := ⟨_, Tryd.underlying63, rfl⟩
instance is63 : SizeC Tryd.prog 63 1 := ⟨Tryd.sizeOf63⟩
instance ia63 : AggC Tryd.prog 63 false := ⟨Tryd.isAgg63⟩
instance iz63 : ZeroC Tryd.prog 63 (Value.tuple #[Value.pointer Option.none, Value.int IntKind.i64 0]) := ⟨Tryd.zeroValue63⟩
instance in64 : NotIface Tryd.prog 64 := ⟨_, Tryd.underlying64, rfl⟩
instance is64 : SizeC Tryd.prog 64 1 := ⟨Tryd.sizeOf64⟩
instance ia64 : AggC Tryd.prog 64 false := ⟨Tryd.isAgg64⟩
instance iz64 : ZeroC Tryd.prog 64 (Value.nilFunc) := ⟨Tryd.zeroValue64⟩
instance in65 : NotIface Tryd.prog 65 := ⟨_, Tryd.underlying65, rfl⟩
instance is65 : SizeC Tryd.prog 65 1 := ⟨Tryd.sizeOf65⟩
instance ia65 : AggC Tryd.prog 65 false := ⟨Tryd.isAgg65⟩
instance iz65 : ZeroC Tryd.prog 65 (Value.nilFunc) := ⟨Tryd.zeroValue65⟩
instance iu66 : Und Tryd.prog 66 (TypeDesc.pointer 112) := ⟨Tryd.underlying66⟩
instance in66 : NotIface Tryd.prog 66 := ⟨_, Tryd.underlying66, rfl⟩
instance is66 : SizeC Tryd.prog 66 1 := ⟨Tryd.sizeOf66⟩
instance ia66 : AggC Tryd.prog 66 false := ⟨Tryd.isAgg66⟩
instance iz66 : ZeroC Tryd.prog 66 (Value.pointer Option.none) := ⟨Tryd.zeroValue66⟩
instance in67 : NotIface Tryd.prog 67 := ⟨_, Tryd.underlying67, rfl⟩
instance is67 : SizeC Tryd.prog 67 1 := ⟨Tryd.sizeOf67⟩
instance ia67 : AggC Tryd.prog 67 false := ⟨Tryd.isAgg67⟩
instance iz67 : ZeroC Tryd.prog 67 (Value.nilFunc) := ⟨Tryd.zeroValue67⟩
instance in68 : NotIface Tryd.prog 68 := ⟨_, Tryd.underlying68, rfl⟩
instance is68 : SizeC Tryd.prog 68 1 := ⟨Tryd.sizeOf68⟩
instance ia68 : AggC Tryd.prog 68 false := ⟨Tryd.isAgg68⟩
instance iz68 : ZeroC Tryd.prog 68 (Value.tuple #[Value.pointer Option.none, Value.int IntKind.i64 0]) := ⟨Tryd.zeroValue68⟩
instance in69 : NotIface Tryd.prog 69 := ⟨_, Tryd.underlying69, rfl⟩
instance is69 : SizeC Tryd.prog 69 1 := ⟨Tryd.sizeOf69⟩
instance ia69 : AggC Tryd.prog 69 false := ⟨Tryd.isAgg69⟩
instance iz69 : ZeroC Tryd.prog 69 (Value.nilFunc) := ⟨Tryd.zeroValue69⟩
instance iu70 : Und Tryd.prog 70 (TypeDesc.int IntKind.u32) := ⟨Tryd.underlying70⟩
instance in70 : NotIface Tryd.prog 70 := ⟨_, Tryd.underlying70, rfl⟩
instance is70 : SizeC Tryd.prog 70 1 := ⟨Tryd.sizeOf70⟩
instance ia70 : AggC Tryd.prog 70 false := ⟨Tryd.isAgg70⟩
instance iz70 : ZeroC Tryd.prog 70 (Value.int IntKind.u32 0) := ⟨Tryd.zeroValue70⟩
instance in71 : NotIface Tryd.prog 71 := ⟨_, Tryd.underlying71, rfl⟩
instance if71_0 : FieldC Tryd.prog 71 0 0 := ⟨_, _, _, Tryd.underlying71, rfl, rfl, Tryd.sizeOf3, rfl⟩
instance if71_1 : FieldC Tryd.prog 71 1 1 := ⟨_, _, _, Tryd.underlying71, rfl, rfl, Tryd.sizeOf3, rfl⟩
instance if71_2 : FieldC Tryd.prog 71 2 2 := ⟨_, _, _, Tryd.underlying71, rfl, rfl, Tryd.sizeOf3, rfl⟩
instance if71_3 : FieldC Tryd.prog 71 3 3 := ⟨_, _, _, Tryd.underlying71, rfl, rfl, Tryd.sizeOf70, rfl⟩
instance ib71 : BuildC Tryd.prog 71 #[(0, 1), (1, 1), (2, 1), (3, 1)] := ⟨_, Tryd.underlying71, fun w => by simp [Tryd.sizeOf3, Tryd.sizeOf70]⟩
instance is71 : SizeC Tryd.prog 71 4 := ⟨Tryd.sizeOf71⟩
instance ia71 : AggC Tryd.prog 71 true := ⟨Tryd.isAgg71⟩
instance iz71 : ZeroC Tryd.prog 71 (Value.agg #[Value.int IntKind.i64 0, Value.int IntKind.i64 0, Value.int IntKind.i64 0, Value.int IntKind.u32 0]) := ⟨Tryd.zeroValue71⟩
instance in72 : NotIface Tryd.prog 72 := ⟨_, Tryd.underlying72, rfl⟩
instance if72_0 : FieldC Tryd.prog 72 0 0 := ⟨_, _, _, Tryd.underlying72, rfl, rfl, Tryd.sizeOf3, rfl⟩
instance if72_1 : FieldC Tryd.prog 72 1 1 := ⟨_, _, _, Tryd.underlying72, rfl, rfl, Tryd.sizeOf3, rfl⟩
instance if72_2 : FieldC Tryd.prog 72 2 2 := ⟨_, _, _, Tryd.underlying72, rfl, rfl, Tryd.sizeOf3, rfl⟩
instance if72_3 : FieldC Tryd.prog 72 3 3 := ⟨_, _, _, Tryd.underlying72, rfl, rfl, Tryd.sizeOf70, rfl⟩
instance ib72 : BuildC Tryd.prog 72 #[(0, 1), (1, 1), (2, 1), (3, 1)] := ⟨_, Tryd.underlying72, fun w => by simp [Tryd.sizeOf3, Tryd.sizeOf70]⟩
instance is72 : SizeC Tryd.prog 72 4 := ⟨Tryd.sizeOf72⟩
instance ia72 : AggC Tryd.prog 72 true := ⟨Tryd.isAgg72⟩
instance iz72 : ZeroC Tryd.prog 72 (Value.agg #[Value.int IntKind.i64 0, Value.int IntKind.i64 0, Value.int IntKind.i64 0, Value.int IntKind.u32 0]) := ⟨Tryd.zeroValue72⟩
instance in73 : NotIface Tryd.prog 73 := ⟨_, Tryd.underlying73, rfl⟩
instance is73 : SizeC Tryd.prog 73 1 := ⟨Tryd.sizeOf73⟩
instance ia73 : AggC Tryd.prog 73 false := ⟨Tryd.isAgg73⟩
instance iz73 : ZeroC Tryd.prog 73 (Value.nilFunc) := ⟨Tryd.zeroValue73⟩
instance in74 : NotIface Tryd.prog 74 := ⟨_, Tryd.underlying74, rfl⟩
instance is74 : SizeC Tryd.prog 74 1 := ⟨Tryd.sizeOf74⟩
instance ia74 : AggC Tryd.prog 74 false := ⟨Tryd.isAgg74⟩
instance iz74 : ZeroC Tryd.prog 74 (Value.tuple #[Value.agg #[Value.int IntKind.i64 0, Value.int IntKind.i64 0, Value.bool false, Value.slice Option.none 0 0], Value.bool false]) := ⟨Tryd.zeroValue74⟩
instance in75 : NotIface Tryd.prog 75 := ⟨_, Tryd.underlying75, rfl⟩
instance is75 : SizeC Tryd.prog 75 1 := ⟨Tryd.sizeOf75⟩
instance ia75 : AggC Tryd.prog 75 false := ⟨Tryd.isAgg75⟩
instance iz75 : ZeroC Tryd.prog 75 (Value.nilFunc) := ⟨Tryd.zeroValue75⟩
instance in76 : NotIface Tryd.prog 76 := ⟨_, Tryd.underlying76, rfl⟩
instance is76 : SizeC Tryd.prog 76 1 := ⟨Tryd.sizeOf76⟩
instance ia76 : AggC Tryd.prog 76 false := ⟨Tryd.isAgg76⟩
instance iz76 : ZeroC Tryd.prog 76 (Value.tuple #[Value.int IntKind.i64 0, Value.int IntKind.i64 0, Value.int IntKind.i64 0]) := ⟨Tryd.zeroValue76⟩
instance in77 : NotIface Tryd.prog 77 := ⟨_, Tryd.underlying77, rfl⟩
instance is77 : SizeC Tryd.prog 77 1 := ⟨Tryd.sizeOf77⟩
instance ia77 : AggC Tryd.prog 77 false := ⟨Tryd.isAgg77⟩
instance iz77 : ZeroC Tryd.prog 77 (Value.nilFunc) := ⟨Tryd.zeroValue77⟩
instance in78 : NotIface Tryd.prog 78 := ⟨_, Tryd.underlying78, rfl⟩
instance is78 : SizeC Tryd.prog 78 1 := ⟨Tryd.sizeOf78⟩
instance ia78 : AggC Tryd.prog 78 false := ⟨Tryd.isAgg78⟩
instance iz78 : ZeroC Tryd.prog 78 (Value.nilFunc) := ⟨Tryd.zeroValue78⟩
instance in79 : NotIface Tryd.prog 79 := ⟨_, Tryd.underlying79, rfl⟩
instance is79 : SizeC Tryd.prog 79 1 := ⟨Tryd.sizeOf79⟩
instance ia79 : AggC Tryd.prog 79 false := ⟨Tryd.isAgg79⟩
instance iz79 : ZeroC Tryd.prog 79 (Value.tuple #[Value.slice Option.none 0 0, Value.int IntKind.i64 0]) := ⟨Tryd.zeroValue79⟩
instance in80 : NotIface Tryd.prog 80 := ⟨_, Tryd.underlying80, rfl⟩
instance is80 : SizeC Tryd.prog 80 1 := ⟨Tryd.sizeOf80⟩
instance ia80 : AggC Tryd.prog 80 false := ⟨Tryd.isAgg80⟩
instance iz80 : ZeroC Tryd.prog 80 (Value.nilFunc) := ⟨Tryd.zeroValue80⟩
instance in81 : NotIface Tryd.prog 81 := ⟨_, Tryd.underlying81, rfl⟩
instance is81 : SizeC Tryd.prog 81 1 := ⟨Tryd.sizeOf81⟩
instance ia81 : AggC Tryd.prog 81 false := ⟨Tryd.isAgg81⟩
instance iz81 : ZeroC Tryd.prog 81 (Value.nilFunc) := ⟨Tryd.zeroValue81⟩
instance in82 : NotIface Tryd.prog 82 := ⟨_, Tryd.underlying82, rfl⟩
instance is82 : SizeC Tryd.prog 82 1 := ⟨Tryd.sizeOf82⟩
instance ia82 : AggC Tryd.prog 82 false := ⟨Tryd.isAgg82⟩
instance iz82 : ZeroC Tryd.prog 82 (Value.nilFunc) := ⟨Tryd.zeroValue82⟩
instance in83 : NotIface Tryd.prog 83 := ⟨_, Tryd.underlying83, rfl⟩
instance is83 : SizeC Tryd.prog 83 1 := ⟨Tryd.sizeOf83⟩
instance ia83 : AggC Tryd.prog 83 false := ⟨Tryd.isAgg83⟩
instance iz83 : ZeroC Tryd.prog 83 (Value.nilFunc) := ⟨Tryd.zeroValue83⟩
instance in84 : NotIface Tryd.prog 84 := ⟨_, Tryd.underlying84, rfl⟩
instance is84 : SizeC Tryd.prog 84 1 := ⟨Tryd.sizeOf84⟩
instance ia84 : AggC Tryd.prog 84 false := ⟨Tryd.isAgg84⟩
instance iz84 : ZeroC Tryd.prog 84 (Value.tuple #[Value.agg #[Value.int IntKind.i64 0, Value.int IntKind.i64 0, Value.bool false, Value.slice Option.none 0 0], Value.int IntKind.i64 0]) := ⟨Tryd.zeroValue84⟩
instance in85 : NotIface Tryd.prog 85 := ⟨_, Tryd.underlying85, rfl⟩
instance is85 : SizeC Tryd.prog 85 1 := ⟨Tryd.sizeOf85⟩
instance ia85 : AggC Tryd.prog 85 false := ⟨Tryd.isAgg85⟩
instance iz85 : ZeroC Tryd.prog 85 (Value.nilFunc) := ⟨Tryd.zeroValue85⟩
instance in86 : NotIface Tryd.prog 86 := ⟨_, Tryd.underlying86, rfl⟩
instance is86 : SizeC Tryd.prog 86 1 := ⟨Tryd.sizeOf86⟩
instance ia86 : AggC Tryd.prog 86 false := ⟨Tryd.isAgg86⟩
instance iz86 : ZeroC Tryd.prog 86 (Value.nilFunc) := ⟨Tryd.zeroValue86⟩
instance in87 : NotIface Tryd.prog 87 := ⟨_, Tryd.underlying87, rfl⟩
instance if87_0 : FieldC Tryd.prog 87 0 0 := ⟨_, _, _, Tryd.underlying87, rfl, rfl, Tryd.sizeOf3, rfl⟩
instance if87_1 : FieldC Tryd.prog 87 1 1 := ⟨_, _, _, Tryd.underlying87, rfl, rfl, Tryd.sizeOf3, rfl⟩
instance if87_2 : FieldC Tryd.prog 87 2 2 := ⟨_, _, _, Tryd.underlying87, rfl, rfl, Tryd.sizeOf3, rfl⟩
instance ib87 : BuildC Tryd.prog 87 #[(0, 1), (1, 1), (2, 1)] := ⟨_, Tryd.underlying87, fun w => by simp [Tryd.sizeOf3]⟩
instance is87 : SizeC Tryd.prog 87 3 := ⟨Tryd.sizeOf87⟩
instance ia87 : AggC Tryd.prog 87 true := ⟨Tryd.isAgg87⟩
instance iz87 : ZeroC Tryd.prog 87 (Value.agg #[Value.int IntKind.i64 0, Value.int IntKind.i64 0, Value.int IntKind.i64 0]) := ⟨Tryd.zeroValue87⟩
instance in88 : NotIface Tryd.prog 88 := ⟨_, Tryd.underlying88, rfl⟩
instance if88_0 : FieldC Tryd.prog 88 0 0 := ⟨_, _, _, Tryd.underlying88, rfl, rfl, Tryd.sizeOf3, rfl⟩
instance if88_1 : FieldC Tryd.prog 88 1 1 := ⟨_, _, _, Tryd.underlying88, rfl, rfl, Tryd.sizeOf3, rfl⟩
instance if88_2 : FieldC Tryd.prog 88 2 2 := ⟨_, _, _, Tryd.underlying88, rfl, rfl, Tryd.sizeOf3, rfl⟩
instance ib88 : BuildC Tryd.prog 88 #[(0, 1), (1, 1), (2, 1)] := ⟨_, Tryd.underlying88, fun w => by simp [Tryd.sizeOf3]⟩
instance is88 : SizeC Tryd.prog 88 3 := ⟨Tryd.sizeOf88⟩
instance ia88 : AggC Tryd.prog 88 true := ⟨Tryd.isAgg88⟩
instance iz88 : ZeroC Tryd.prog 88 (Value.agg #[Value.int IntKind.i64 0, Value.int IntKind.i64 0, Value.int IntKind.i64 0]) := ⟨Tryd.zeroValue88⟩
instance in89 : NotIface Tryd.prog 89 := ⟨_, Tryd.underlying89, rfl⟩
instance is89 : SizeC Tryd.prog 89 1 := ⟨Tryd.sizeOf89⟩
instance ia89 : AggC Tryd.prog 89 false := ⟨Tryd.isAgg89⟩
instance iz89 : ZeroC Tryd.prog 89 (Value.tuple #[Value.agg #[Value.int IntKind.i64 0, Value.int IntKind.i64 0, Value.int IntKind.i64 0], Value.bool false]) := ⟨Tryd.zeroValue89⟩
instance in90 : NotIface Tryd.prog 90 := ⟨_, Tryd.underlying90, rfl⟩
instance is90 : SizeC Tryd.prog 90 1 := ⟨Tryd.sizeOf90⟩
instance ia90 : AggC Tryd.prog 90 false := ⟨Tryd.isAgg90⟩
instance iz90 : ZeroC Tryd.prog 90 (Value.nilFunc) := ⟨Tryd.zeroValue90⟩
instance in91 : NotIface Tryd.prog 91 := ⟨_, Tryd.underlying91, rfl⟩
instance is91 : SizeC Tryd.prog 91 1 := ⟨Tryd.sizeOf91⟩
instance ia91 : AggC Tryd.prog 91 false := ⟨Tryd.isAgg91⟩
instance iz91 : ZeroC Tryd.prog 91 (Value.nilFunc) := ⟨Tryd.zeroValue91⟩
instance in92 : NotIface Tryd.prog 92 := ⟨_, Tryd.underlying92, rfl⟩
instance is92 : SizeC Tryd.prog 92 1 := ⟨Tryd.sizeOf92⟩
instance ia92 : AggC Tryd.prog 92 false := ⟨Tryd.isAgg92⟩
instance iz92 : ZeroC Tryd.prog 92 (Value.nilFunc) := ⟨Tryd.zeroValue92⟩
instance in93 : NotIface Tryd.prog 93 := ⟨_, Tryd.underlying93, rfl⟩
instance is93 : SizeC Tryd.prog 93 1 := ⟨Tryd.sizeOf93⟩
instance ia93 : AggC Tryd.prog 93 false := ⟨Tryd.isAgg93⟩
instance iz93 : ZeroC Tryd.prog 93 (Value.nilFunc) := ⟨Tryd.zeroValue93⟩
instance in94 : NotIface Tryd.prog 94 := ⟨_, Tryd.underlying94, rfl⟩
instance is94 : SizeC Tryd.prog 94 1 := ⟨Tryd.sizeOf94⟩
instance ia94 : AggC Tryd.prog 94 false := ⟨Tryd.isAgg94⟩
instance iz94 : ZeroC Tryd.prog 94 (Value.nilFunc) := ⟨Tryd.zeroValue94⟩
instance in95 : NotIface Tryd.prog 95 := ⟨_, Tryd.underlying95, rfl⟩
instance is95 : SizeC Tryd.prog 95 1 := ⟨Tryd.sizeOf95⟩
instance ia95 : AggC Tryd.prog 95 false := ⟨Tryd.isAgg95⟩
instance iz95 : ZeroC Tryd.prog 95 (Value.nilFunc) := ⟨Tryd.zeroValue95⟩
instance iu96 : Und Tryd.prog 96 (TypeDesc.slice 147) := ⟨Tryd.underlying96⟩
instance in96 : NotIface Tryd.prog 96 := ⟨_, Tryd.underlying96, rfl⟩
instance is96 : SizeC Tryd.prog 96 1 := ⟨Tryd.sizeOf96⟩
instance ia96 : AggC Tryd.prog 96 false := ⟨Tryd.isAgg96⟩
instance iz96 : ZeroC Tryd.prog 96 (Value.slice Option.none 0 0) := ⟨Tryd.zeroValue96⟩
instance iu97 : Und Tryd.prog 97 (TypeDesc.slice 149) := ⟨Tryd.underlying97⟩
instance in97 : NotIface Tryd.prog 97 := ⟨_, Tryd.underlying97, rfl⟩
instance is97 : SizeC Tryd.prog 97 1 := ⟨Tryd.sizeOf97⟩
instance ia97 : AggC Tryd.prog 97 false := ⟨Tryd.isAgg97⟩
instance iz97 : ZeroC Tryd.prog 97 (Value.slice Option.none 0 0) := ⟨Tryd.zeroValue97⟩
instance iu98 : Und Tryd.prog 98 (TypeDesc.map 3 3) := ⟨Tryd.underlying98⟩
instance in98 : NotIface Tryd.prog 98 := ⟨_, Tryd.underlying98, rfl⟩
instance is98 : SizeC Tryd.prog 98 1 := ⟨Tryd.sizeOf98⟩
instance ia98 : AggC Tryd.prog 98 false := ⟨Tryd.isAgg98⟩
instance iz98 : ZeroC Tryd.prog 98 (Value.map Option.none) := ⟨Tryd.zeroValue98⟩
instance in99 : NotIface Tryd.prog 99 := ⟨_, Tryd.underlying99, rfl⟩
instance if99_0 : FieldC Tryd.prog 99 0 0 := ⟨_, _, _, Tryd.underlying99, rfl, rfl, Tryd.sizeOf96, rfl⟩
instance if99_1 : FieldC Tryd.prog 99 1 1 := ⟨_, _, _, Tryd.underlying99, rfl, rfl, Tryd.sizeOf97, rfl⟩
instance if99_2 : FieldC Tryd.prog 99 2 2 := ⟨_, _, _, Tryd.underlying99, rfl, rfl, Tryd.sizeOf98, rfl⟩
instance if99_3 : FieldC Tryd.prog 99 3 3 := ⟨_, _, _, Tryd.underlying99, rfl, rfl, Tryd.sizeOf98, rfl⟩
instance if99_4 : FieldC Tryd.prog 99 4 4 := ⟨_, _, _, Tryd.underlying99, rfl, rfl, Tryd.sizeOf3, rfl⟩
instance if99_5 : FieldC Tryd.prog 99 5 5 := ⟨_, _, _, Tryd.underlying99, rfl, rfl, Tryd.sizeOf4, rfl⟩
instance if99_6 : FieldC Tryd.prog 99 6 6 := ⟨_, _, _, Tryd.underlying99, rfl, rfl, Tryd.sizeOf4, rfl⟩
instance ib99 : BuildC Tryd.prog 99 #[(0, 1), (1, 1), (2, 1), (3, 1), (4, 1), (5, 1), (6, 1)] := ⟨_, Tryd.underlying99, fun w => by simp [Tryd.sizeOf3, Tryd.sizeOf4, Tryd.sizeOf96, Tryd.sizeOf97, Tryd.sizeOf98]⟩
instance is99 : SizeC Tryd.prog 99 7 := ⟨Tryd.sizeOf99⟩
instance ia99 : AggC Tryd.prog 99 true := ⟨Tryd.isAgg99⟩
instance iz99 : ZeroC Tryd.prog 99 (Value.agg #[Value.slice Option.none 0 0, Value.slice Option.none 0 0, Value.map Option.none, Value.map Option.none, Value.int IntKind.i64 0, Value.bool false, Value.bool false]) := ⟨Tryd.zeroValue99⟩
instance in100 : NotIface Tryd.prog 100 := ⟨_, Tryd.underlying100, rfl⟩
instance if100_0 : FieldC Tryd.prog 100 0 0 := ⟨_, _, _, Tryd.underlying100, rfl, rfl, Tryd.sizeOf96, rfl⟩
instance if100_1 : FieldC Tryd.prog 100 1 1 := ⟨_, _, _, Tryd.underlying100, rfl, rfl, Tryd.sizeOf97, rfl⟩
instance if100_2 : FieldC Tryd.prog 100 2 2 := ⟨_, _, _, Tryd.underlying100, rfl, rfl, Tryd.sizeOf98, rfl⟩
instance if100_3 : FieldC Tryd.prog 100 3 3 := ⟨_, _, _, Tryd.underlying100, rfl, rfl, Tryd.sizeOf98, rfl⟩
instance if100_4 : FieldC Tryd.prog 100 4 4 := ⟨_, _, _, Tryd.underlying100, rfl, rfl, Tryd.sizeOf3, rfl⟩
instance if100_5 : FieldC Tryd.prog 100 5 5 := ⟨_, _, _, Tryd.underlying100, rfl, rfl, Tryd.sizeOf4, rfl⟩
instance if100_6 : FieldC Tryd.prog 100 6 6 := ⟨_, _, _, Tryd.underlying100, rfl, rfl, Tryd.sizeOf4, rfl⟩
instance ib100 : BuildC Tryd.prog 100 #[(0, 1), (1, 1), (2, 1), (3, 1), (4, 1), (5, 1), (6, 1)] := ⟨_, Tryd.underlying100, fun w => by simp [Tryd.sizeOf3, Tryd.sizeOf4, Tryd.sizeOf96, Tryd.sizeOf97, Tryd.sizeOf98]⟩
instance is100 : SizeC Tryd.prog 100 7 := ⟨Tryd.sizeOf100⟩
instance ia100 : AggC Tryd.prog 100 true := ⟨Tryd.isAgg100⟩
instance iz100 : ZeroC Tryd.prog 100 (Value.agg #[Value.slice Option.none 0 0, Value.slice Option.none 0 0, Value.map Option.none, Value.map Option.none, Value.int IntKind.i64 0, Value.bool false, Value.bool false]) := ⟨Tryd.zeroValue100⟩
instance in101 : NotIface Tryd.prog 101 := ⟨_, Tryd.underlying101, rfl⟩
instance is101 : SizeC Tryd.prog 101 1 := ⟨Tryd.sizeOf101⟩
instance ia101 : AggC Tryd.prog 101 false := ⟨Tryd.isAgg101⟩
instance iz101 : ZeroC Tryd.prog 101 (Value.nilFunc) := ⟨Tryd.zeroValue101⟩
instance in102 : NotIface Tryd.prog 102 := ⟨_, Tryd.underlying102, rfl⟩
instance is102 : SizeC Tryd.prog 102 1 := ⟨Tryd.sizeOf102⟩
instance ia102 : AggC Tryd.prog 102 false := ⟨Tryd.isAgg102⟩
instance iz102 : ZeroC Tryd.prog 102 (Value.nilFunc) := ⟨Tryd.zeroValue102⟩
instance in103 : NotIface Tryd.prog 103 := ⟨_, Tryd.underlying103, rfl⟩
instance is103 : SizeC Tryd.prog 103 1 := ⟨Tryd.sizeOf103⟩
instance ia103 : AggC Tryd.prog 103 false := ⟨Tryd.isAgg103⟩
instance iz103 : ZeroC Tryd.prog 103 (Value.nilFunc) := ⟨Tryd.zeroValue103⟩
instance in104 : NotIface Tryd.prog 104 := ⟨_, Tryd.underlying104, rfl⟩
instance is104 : SizeC Tryd.prog 104 1 := ⟨Tryd.sizeOf104⟩
instance ia104 : AggC Tryd.prog 104 false := ⟨Tryd.isAgg104⟩
instance iz104 : ZeroC Tryd.prog 104 (Value.nilFunc) := ⟨Tryd.zeroValue104⟩
instance in105 : NotIface Tryd.prog 105 := ⟨_, Tryd.underlying105, rfl⟩
instance is105 : SizeC Tryd.prog 105 1 := ⟨Tryd.sizeOf105⟩
instance ia105 : AggC Tryd.prog 105 false := ⟨Tryd.isAgg105⟩
instance iz105 : ZeroC Tryd.prog 105 (Value.nilFunc) := ⟨Tryd.zeroValue105⟩
instance in106 : NotIface Tryd.prog 106 := ⟨_, Tryd.underlying106, rfl⟩
instance is106 : SizeC Tryd.prog 106 1 := ⟨Tryd.sizeOf106⟩
instance ia106 : AggC Tryd.prog 106 false := ⟨Tryd.isAgg106⟩
instance iz106 : ZeroC Tryd.prog 106 (Value.nilFunc) := ⟨Tryd.zeroValue106⟩
instance in107 : NotIface Tryd.prog 107 := ⟨_, Tryd.underlying107, rfl⟩
instance if107_0 : FieldC Tryd.prog 107 0 0 := ⟨_, _, _, Tryd.underlying107, rfl, rfl, Tryd.sizeOf46, rfl⟩
instance if107_1 : FieldC Tryd.prog 107 1 4 := ⟨_, _, _, Tryd.underlying107, rfl, rfl, Tryd.sizeOf58, rfl⟩
instance if107_2 : FieldC Tryd.prog 107 2 5 := ⟨_, _, _, Tryd.underlying107, rfl, rfl, Tryd.sizeOf27, rfl⟩
instance if107_3 : FieldC Tryd.prog 107 3 6 := ⟨_, _, _, Tryd.underlying107, rfl, rfl, Tryd.sizeOf54, rfl⟩
instance ib107 : BuildC Tryd.prog 107 #[(0, 4), (4, 1), (5, 1), (6, 8)] := ⟨_, Tryd.underlying107, fun w => by simp [Tryd.sizeOf27, Tryd.sizeOf46, Tryd.sizeOf54, Tryd.sizeOf58]⟩
instance is107 : SizeC Tryd.prog 107 14 := ⟨Tryd.sizeOf107⟩
instance ia107 : AggC Tryd.prog 107 true := ⟨Tryd.isAgg107⟩
instance iz107 : ZeroC Tryd.prog 107 (Value.agg #[Value.int IntKind.i64 0, Value.int IntKind.i64 0, Value.int IntKind.i64 0, Value.int IntKind.i64 0, Value.pointer Option.none, Value.slice Option.none 0 0, Value.int IntKind.i64 0, Value.int IntKind.i64 0, Value.int IntKind.i64 0, Value.int IntKind.i64 0, Value.int IntKind.i64 0, Value.int IntKind.i64 0, Value.int IntKind.i64 0, Value.int IntKind.i64 0]) := ⟨Tryd.zeroValue107⟩
instance in108 : NotIface Tryd.prog 108 := ⟨_, Tryd.underlying108, rfl⟩
instance if108_0 : FieldC Tryd.prog 108 0 0 := ⟨_, _, _, Tryd.underlying108, rfl, rfl, Tryd.sizeOf46, rfl⟩
instance if108_1 : FieldC Tryd.prog 108 1 4 := ⟨_, _, _, Tryd.underlying108, rfl, rfl, Tryd.sizeOf58, rfl⟩
instance if108_2 : FieldC Tryd.prog 108 2 5 := ⟨_, _, _, Tryd.underlying108, rfl, rfl, Tryd.sizeOf27, rfl⟩
instance if108_3 : FieldC Tryd.prog 108 3 6 := ⟨_, _, _, Tryd.underlying108, rfl, rfl, Tryd.sizeOf54, rfl⟩
instance ib108 : BuildC Tryd.prog 108 #[(0, 4), (4, 1), (5, 1), (6, 8)] := ⟨_, Tryd.underlying108, fun w => by simp [Tryd.sizeOf27, Tryd.sizeOf46, Tryd.sizeOf54, Tryd.sizeOf58]⟩
instance is108 : SizeC Tryd.prog 108 14 := ⟨Tryd.sizeOf108⟩
instance ia108 : AggC Tryd.prog 108 true := ⟨Tryd.isAgg108⟩
instance iz108 : ZeroC Tryd.prog 108 (Value.agg #[Value.int IntKind.i64 0, Value.int IntKind.i64 0, Value.int IntKind.i64 0, Value.int IntKind.i64 0, Value.pointer Option.none, Value.slice Option.none 0 0, Value.int IntKind.i64 0, Value.int IntKind.i64 0, Value.int IntKind.i64 0, Value.int IntKind.i64 0, Value.int IntKind.i64 0, Value.int IntKind.i64 0, Value.int IntKind.i64 0, Value.int IntKind.i64 0]) := ⟨Tryd.zeroValue108⟩
instance in109 : NotIface Tryd.prog 109 := ⟨_, Tryd.underlying109, rfl⟩
instance is109 : SizeC Tryd.prog 109 1 := ⟨Tryd.sizeOf109⟩
instance ia109 : AggC Tryd.prog 109 false := ⟨Tryd.isAgg109⟩
instance iz109 : ZeroC Tryd.prog 109 (Value.nilFunc) := ⟨Tryd.zeroValue109⟩
instance iu110 : Und Tryd.prog 110 (TypeDesc.slice 155) := ⟨Tryd.underlying110⟩
instance in110 : NotIface Tryd.prog 110 := ⟨_, Tryd.underlying110, rfl⟩
instance is110 : SizeC Tryd.prog 110 1 := ⟨Tryd.sizeOf110⟩
instance ia110 : AggC Tryd.prog 110 false := ⟨Tryd.isAgg110⟩
instance iz110 : ZeroC Tryd.prog 110 (Value.slice Option.none 0 0) := ⟨Tryd.zeroValue110⟩
instance in111 : NotIface Tryd.prog 111 := ⟨_, Tryd.underlying111, rfl⟩
instance if111_0 : FieldC Tryd.prog 111 0 0 := ⟨_, _, _, Tryd.underlying111, rfl, rfl, Tryd.sizeOf36, rfl⟩
instance if111_1 : FieldC Tryd.prog 111 1 1 := ⟨_, _, _, Tryd.underlying111, rfl, rfl, Tryd.sizeOf47, rfl⟩
instance if111_2 : FieldC Tryd.prog 111 2 2 := ⟨_, _, _, Tryd.underlying111, rfl, rfl, Tryd.sizeOf110, rfl⟩
instance if111_3 : FieldC Tryd.prog 111 3 3 := ⟨_, _, _, Tryd.underlying111, rfl, rfl, Tryd.sizeOf3, rfl⟩
instance if111_4 : FieldC Tryd.prog 111 4 4 := ⟨_, _, _, Tryd.underlying111, rfl, rfl, Tryd.sizeOf4, rfl⟩
instance if111_5 : FieldC Tryd.prog 111 5 5 := ⟨_, _, _, Tryd.underlying111, rfl, rfl, Tryd.sizeOf4, rfl⟩
instance ib111 : BuildC Tryd.prog 111 #[(0, 1), (1, 1), (2, 1), (3, 1), (4, 1), (5, 1)] := ⟨_, Tryd.underlying111, fun w => by simp [Tryd.sizeOf110, Tryd.sizeOf3, Tryd.sizeOf36, Tryd.sizeOf4, Tryd.sizeOf47]⟩
instance is111 : SizeC Tryd.prog 111 6 := ⟨Tryd.sizeOf111⟩
instance ia111 : AggC Tryd.prog 111 true := ⟨Tryd.isAgg111⟩
instance iz111 : ZeroC Tryd.prog 111 (Value.agg #[Value.slice Option.none 0 0, Value.slice Option.none 0 0, Value.slice Option.none 0 0, Value.int IntKind.i64 0, Value.bool false, Value.bool false]) := ⟨Tryd.zeroValue111⟩
instance in112 : NotIface Tryd.prog 112 := ⟨_, Tryd.underlying112, rfl⟩
instance if112_0 : FieldC Tryd.prog 112 0 0 := ⟨_, _, _, Tryd.underlying112, rfl, rfl, Tryd.sizeOf36, rfl⟩
instance if112_1 : FieldC Tryd.prog 112 1 1 := ⟨_, _, _, Tryd.underlying112, rfl, rfl, Tryd.sizeOf47, rfl⟩
instance if112_2 : FieldC Tryd.prog 112 2 2 := ⟨_, _, _, Tryd.underlying112, rfl, rfl, Tryd.sizeOf110, rfl⟩
instance if112_3 : FieldC Tryd.prog 112 3 3 := ⟨_, _, _, Tryd.underlying112, rfl, rfl, Tryd.sizeOf3, rfl⟩
instance if112_4 : FieldC Tryd.prog 112 4 4 := ⟨_, _, _, Tryd.underlying112, rfl, rfl, Tryd.sizeOf4, rfl⟩
instance if112_5 : FieldC Tryd.prog 112 5 5 := ⟨_, _, _, Tryd.underlying112, rfl, rfl, Tryd.sizeOf4, rfl⟩
instance ib112 : BuildC Tryd.prog 112 #[(0, 1), (1, 1), (2, 1), (3, 1), (4, 1), (5, 1)] := ⟨_, Tryd.underlying112, fun w => by simp [Tryd.sizeOf110, Tryd.sizeOf3, Tryd.sizeOf36, Tryd.sizeOf4, Tryd.sizeOf47]⟩
instance is112 : SizeC Tryd.prog 112 6 := ⟨Tryd.sizeOf112⟩
instance ia112 : AggC Tryd.prog 112 true := ⟨Tryd.isAgg112⟩
instance iz112 : ZeroC Tryd.prog 112 (Value.agg #[Value.slice Option.none 0 0, Value.slice Option.none 0 0, Value.slice Option.none 0 0, Value.int IntKind.i64 0, Value.bool false, Value.bool false]) := ⟨Tryd.zeroValue112⟩
instance in113 : NotIface Tryd.prog 113 := ⟨_, Tryd.underlying113, rfl⟩
instance is113 : SizeC Tryd.prog 113 1 := ⟨Tryd.sizeOf113⟩
instance ia113 : AggC Tryd.prog 113 false := ⟨Tryd.isAgg113⟩
instance iz113 : ZeroC Tryd.prog 113 (Value.nilFunc) := ⟨Tryd.zeroValue113⟩
instance in114 : NotIface Tryd.prog 114 := ⟨_, Tryd.underlying114, rfl⟩
instance is114 : SizeC Tryd.prog 114 1 := ⟨Tryd.sizeOf114⟩
instance ia114 : AggC Tryd.prog 114 false := ⟨Tryd.isAgg114⟩
instance iz114 : ZeroC Tryd.prog 114 (Value.nilFunc) := ⟨Tryd.zeroValue114⟩
instance in115 : NotIface Tryd.prog 115 := ⟨_, Tryd.underlying115, rfl⟩
instance is115 : SizeC Tryd.prog 115 1 := ⟨Tryd.sizeOf115⟩
instance ia115 : AggC Tryd.prog 115 false := ⟨Tryd.isAgg115⟩
instance iz115 : ZeroC Tryd.prog 115 (Value.nilFunc) := ⟨Tryd.zeroValue115⟩
instance in116 : NotIface Tryd.prog 116 := ⟨_, Tryd.underlying116, rfl⟩
instance is116 : SizeC Tryd.prog 116 1 := ⟨Tryd.sizeOf116⟩
instance ia116 : AggC Tryd.prog 116 false := ⟨Tryd.isAgg116⟩
instance iz116 : ZeroC Tryd.prog 116 (Value.nilFunc) := ⟨Tryd.zeroValue116⟩
instance in117 : NotIface Tryd.prog 117 := ⟨_, Tryd.underlying117, rfl⟩
instance is117 : SizeC Tryd.prog 117 1 := ⟨Tryd.sizeOf117⟩
instance ia117 : AggC Tryd.prog 117 false := ⟨Tryd.isAgg117⟩
instance iz117 : ZeroC Tryd.prog 117 (Value.nilFunc) := ⟨Tryd.zeroValue117⟩
instance in118 : NotIface Tryd.prog 118 := ⟨_, Tryd.underlying118, rfl⟩
instance if118_0 : FieldC Tryd.prog 118 0 0 := ⟨_, _, _, Tryd.underlying118, rfl, rfl, Tryd.sizeOf46, rfl⟩
instance if118_1 : FieldC Tryd.prog 118 1 4 := ⟨_, _, _, Tryd.underlying118, rfl, rfl, Tryd.sizeOf66, rfl⟩
instance if118_2 : FieldC Tryd.prog 118 2 5 := ⟨_, _, _, Tryd.underlying118, rfl, rfl, Tryd.sizeOf28, rfl⟩
instance if118_3 : FieldC Tryd.prog 118 3 6 := ⟨_, _, _, Tryd.underlying118, rfl, rfl, Tryd.sizeOf47, rfl⟩
instance ib118 : BuildC Tryd.prog 118 #[(0, 4), (4, 1), (5, 1), (6, 1)] := ⟨_, Tryd.underlying118, fun w => by simp [Tryd.sizeOf28, Tryd.sizeOf46, Tryd.sizeOf47, Tryd.sizeOf66]⟩
instance is118 : SizeC Tryd.prog 118 7 := ⟨Tryd.sizeOf118⟩
instance ia118 : AggC Tryd.prog 118 true := ⟨Tryd.isAgg118⟩
instance iz118 : ZeroC Tryd.prog 118 (Value.agg #[Value.int IntKind.i64 0, Value.int IntKind.i64 0, Value.int IntKind.i64 0, Value.int IntKind.i64 0, Value.pointer Option.none, Value.slice Option.none 0 0, Value.slice Option.none 0 0]) := ⟨Tryd.zeroValue118⟩
instance in119 : NotIface Tryd.prog 119 := ⟨_, Tryd.underlying119, rfl⟩
instance if119_0 : FieldC Tryd.prog 119 0 0 := ⟨_, _, _, Tryd.underlying119, rfl, rfl, Tryd.sizeOf46, rfl⟩
instance if119_1 : FieldC Tryd.prog 119 1 4 := ⟨_, _, _, Tryd.underlying119, rfl, rfl, Tryd.sizeOf66, rfl⟩
instance if119_2 : FieldC Tryd.prog 119 2 5 := ⟨_, _, _, Tryd.underlying119, rfl, rfl, Tryd.sizeOf28, rfl⟩
instance if119_3 : FieldC Tryd.prog 119 3 6 := ⟨_, _, _, Tryd.underlying119, rfl, rfl, Tryd.sizeOf47, rfl⟩
instance ib119 : BuildC Tryd.prog 119 #[(0, 4), (4, 1), (5, 1), (6, 1)] := ⟨_, Tryd.underlying119, fun w => by simp [Tryd.sizeOf28, Tryd.sizeOf46, Tryd.sizeOf47, Tryd.sizeOf66]⟩
instance is119 : SizeC Tryd.prog 119 7 := ⟨Tryd.sizeOf119⟩
instance ia119 : AggC Tryd.prog 119 true := ⟨Tryd.isAgg119⟩
instance iz119 : ZeroC Tryd.prog 119 (Value.agg #[Value.int IntKind.i64 0, Value.int IntKind.i64 0, Value.int IntKind.i64 0, Value.int IntKind.i64 0, Value.pointer Option.none, Value.slice Option.none 0 0, Value.slice Option.none 0 0]) := ⟨Tryd.zeroValue119⟩
instance in120 : NotIface Tryd.prog 120 := ⟨_, Tryd.underlying120, rfl⟩
instance is120 : SizeC Tryd.prog 120 1 := ⟨Tryd.sizeOf120⟩
instance ia120 : AggC Tryd.prog 120 false := ⟨Tryd.isAgg120⟩
instance iz120 : ZeroC Tryd.prog 120 (Value.nilFunc) := ⟨Tryd.zeroValue120⟩
instance in121 : NotIface Tryd.prog 121 := ⟨_, Tryd.underlying121, rfl⟩
instance is121 : SizeC Tryd.prog 121 1 := ⟨Tryd.sizeOf121⟩
instance ia121 : AggC Tryd.prog 121 false := ⟨Tryd.isAgg121⟩
instance iz121 : ZeroC Tryd.prog 121 (Value.nilFunc) := ⟨Tryd.zeroValue121⟩
instance in122 : NotIface Tryd.prog 122 := ⟨_, Tryd.underlying122, rfl⟩
instance is122 : SizeC Tryd.prog 122 1 := ⟨Tryd.sizeOf122⟩
instance ia122 : AggC Tryd.prog 122 false := ⟨Tryd.isAgg122⟩
instance iz122 : ZeroC Tryd.prog 122 (Value.nilFunc) := ⟨Tryd.zeroValue122⟩
instance in123 : NotIface Tryd.prog 123 := ⟨_, Tryd.underlying123, rfl⟩
instance is123 : SizeC Tryd.prog 123 1 := ⟨Tryd.sizeOf123⟩
instance ia123 : AggC Tryd.prog 123 false := ⟨Tryd.isAgg123⟩
instance iz123 : ZeroC Tryd.prog 123 (Value.tuple #[Value.agg #[Value.int IntKind.i64 0, Value.int IntKind.i64 0, Value.int IntKind.i64 0], Value.int IntKind.i64 0]) := ⟨Tryd.zeroValue123⟩
instance in124 : NotIface Tryd.prog 124 := ⟨_, Tryd.underlying124, rfl⟩
instance is124 : SizeC Tryd.prog 124 1 := ⟨Tryd.sizeOf124⟩
instance ia124 : AggC Tryd.prog 124 false := ⟨Tryd.isAgg124⟩
instance iz124 : ZeroC Tryd.prog 124 (Value.nilFunc) := ⟨Tryd.zeroValue124⟩
instance in125 : NotIface Tryd.prog 125 := ⟨_, Tryd.underlying125, rfl⟩
instance is125 : SizeC Tryd.prog 125 1 := ⟨Tryd.sizeOf125⟩
instance ia125 : AggC Tryd.prog 125 false := ⟨Tryd.isAgg125⟩
instance iz125 : ZeroC Tryd.prog 125 (Value.nilFunc) := ⟨Tryd.zeroValue125⟩
instance in126 : NotIface Tryd.prog 126 := ⟨_, Tryd.underlying126, rfl⟩
instance is126 : SizeC Tryd.prog 126 1 := ⟨Tryd.sizeOf126⟩
instance ia126 : AggC Tryd.prog 126 false := ⟨Tryd.isAgg126⟩
instance iz126 : ZeroC Tryd.prog 126 (Value.nilFunc) := ⟨Tryd.zeroValue126⟩
instance in127 : NotIface Tryd.prog 127 := ⟨_, Tryd.underlying127, rfl⟩
instance is127 : SizeC Tryd.prog 127 1 := ⟨Tryd.sizeOf127⟩
instance ia127 : AggC Tryd.prog 127 false := ⟨Tryd.isAgg127⟩
instance iz127 : ZeroC Tryd.prog 127 (Value.nilFunc) := ⟨Tryd.zeroValue127⟩
instance in128 : NotIface Tryd.prog 128 := ⟨_, Tryd.underlying128, rfl⟩
instance is128 : SizeC Tryd.prog 128 1 := ⟨Tryd.sizeOf128⟩
instance ia128 : AggC Tryd.prog 128 false := ⟨Tryd.isAgg128⟩
instance iz128 : ZeroC Tryd.prog 128 (Value.nilFunc) := ⟨Tryd.zeroValue128⟩
instance iu129 : Und Tryd.prog 129 (TypeDesc.int IntKind.u64) := ⟨Tryd.underlying129⟩
instance in129 : NotIface Tryd.prog 129 := ⟨_, Tryd.underlying129, rfl⟩
instance is129 : SizeC Tryd.prog 129 1 := ⟨Tryd.sizeOf129⟩
instance ia129 : AggC Tryd.prog 129 false := ⟨Tryd.isAgg129⟩
instance iz129 : ZeroC Tryd.prog 129 (Value.int IntKind.u64 0) := ⟨Tryd.zeroValue129⟩
instance in130 : NotIface Tryd.prog 130 := ⟨_, Tryd.underlying130, rfl⟩
instance if130_0 : FieldC Tryd.prog 130 0 0 := ⟨_, _, _, Tryd.underlying130, rfl, rfl, Tryd.sizeOf3, rfl⟩
instance if130_1 : FieldC Tryd.prog 130 1 1 := ⟨_, _, _, Tryd.underlying130, rfl, rfl, Tryd.sizeOf129, rfl⟩
instance ib130 : BuildC Tryd.prog 130 #[(0, 1), (1, 1)] := ⟨_, Tryd.underlying130, fun w => by simp [Tryd.sizeOf129, Tryd.sizeOf3]⟩
instance is130 : SizeC Tryd.prog 130 2 := ⟨Tryd.sizeOf130⟩
instance ia130 : AggC Tryd.prog 130 true := ⟨Tryd.isAgg130⟩
instance iz130 : ZeroC Tryd.prog 130 (Value.agg #[Value.int IntKind.i64 0, Value.int IntKind.u64 0]) := ⟨Tryd.zeroValue130⟩
instance in131 : NotIface Tryd.prog 131 := ⟨_, Tryd.underlying131, rfl⟩
instance if131_0 : FieldC Tryd.prog 131 0 0 := ⟨_, _, _, Tryd.underlying131, rfl, rfl, Tryd.sizeOf3, rfl⟩
instance if131_1 : FieldC Tryd.prog 131 1 1 := ⟨_, _, _, Tryd.underlying131, rfl, rfl, Tryd.sizeOf129, rfl⟩
instance ib131 : BuildC Tryd.prog 131 #[(0, 1), (1, 1)] := ⟨_, Tryd.underlying131, fun w => by simp [Tryd.sizeOf129, Tryd.sizeOf3]⟩
instance is131 : SizeC Tryd.prog 131 2 := ⟨Tryd.sizeOf131⟩
instance ia131 : AggC Tryd.prog 131 true := ⟨Tryd.isAgg131⟩
instance iz131 : ZeroC Tryd.prog 131 (Value.agg #[Value.int IntKind.i64 0, Value.int IntKind.u64 0]) := ⟨Tryd.zeroValue131⟩
instance in132 : NotIface Tryd.prog 132 := ⟨_, Tryd.underlying132, rfl⟩
instance is132 : SizeC Tryd.prog 132 1 := ⟨Tryd.sizeOf132⟩
instance ia132 : AggC Tryd.prog 132 false := ⟨Tryd.isAgg132⟩
instance iz132 : ZeroC Tryd.prog 132 (Value.nilFunc) := ⟨Tryd.zeroValue132⟩
instance iu133 : Und Tryd.prog 133 (TypeDesc.slice 131) := ⟨Tryd.underlying133⟩
instance in133 : NotIface Tryd.prog 133 := ⟨_, Tryd.underlying133, rfl⟩
instance is133 : SizeC Tryd.prog 133 1 := ⟨Tryd.sizeOf133⟩
instance ia133 : AggC Tryd.prog 133 false := ⟨Tryd.isAgg133⟩
instance iz133 : ZeroC Tryd.prog 133 (Value.slice Option.none 0 0) := ⟨Tryd.zeroValue133⟩
instance in134 : NotIface Tryd.prog 134 := ⟨_, Tryd.underlying134, rfl⟩
instance is134 : SizeC Tryd.prog 134 1 := ⟨Tryd.sizeOf134⟩
instance ia134 : AggC Tryd.prog 134 false := ⟨Tryd.isAgg134⟩
instance iz134 : ZeroC Tryd.prog 134 (Value.nilFunc) := ⟨Tryd.zeroValue134⟩
instance in135 : NotIface Tryd.prog 135 := ⟨_, Tryd.underlying135, rfl⟩
instance is135 : SizeC Tryd.prog 135 1 := ⟨Tryd.sizeOf135⟩
instance ia135 : AggC Tryd.prog 135 false := ⟨Tryd.isAgg135⟩
instance iz135 : ZeroC Tryd.prog 135 (Value.nilFunc) := ⟨Tryd.zeroValue135⟩
instance in136 : NotIface Tryd.prog 136 := ⟨_, Tryd.underlying136, rfl⟩
instance is136 : SizeC Tryd.prog 136 1 := ⟨Tryd.sizeOf136⟩
instance ia136 : AggC Tryd.prog 136 false := ⟨Tryd.isAgg136⟩
instance iz136 : ZeroC Tryd.prog 136 (Value.nilFunc) := ⟨Tryd.zeroValue136⟩
instance in137 : NotIface Tryd.prog 137 := ⟨_, Tryd.underlying137, rfl⟩
instance is137 : SizeC Tryd.prog 137 1 := ⟨Tryd.sizeOf137⟩
instance ia137 : AggC Tryd.prog 137 false := ⟨Tryd.isAgg137⟩
instance iz137 : ZeroC Tryd.prog 137 (Value.nilFunc) := ⟨Tryd.zeroValue137⟩
instance in138 : NotIface Tryd.prog 138 := ⟨_, Tryd.underlying138, rfl⟩
instance is138 : SizeC Tryd.prog 138 1 := ⟨Tryd.sizeOf138⟩
instance ia138 : AggC Tryd.prog 138 false := ⟨Tryd.isAgg138⟩
instance iz138 : ZeroC Tryd.prog 138 (Value.tuple #[Value.pointer Option.none, Value.int IntKind.i64 0, Value.int IntKind.i64 0]) := ⟨Tryd.zeroValue138⟩
instance in139 : NotIface Tryd.prog 139 := ⟨_, Tryd.underlying139, rfl⟩
instance is139 : SizeC Tryd.prog 139 1 := ⟨Tryd.sizeOf139⟩
instance ia139 : AggC Tryd.prog 139 false := ⟨Tryd.isAgg139⟩
instance iz139 : ZeroC Tryd.prog 139 (Value.nilFunc) := ⟨Tryd.zeroValue139⟩
instance in140 : NotIface Tryd.prog 140 := ⟨_, Tryd.underlying140, rfl⟩
instance is140 : SizeC Tryd.prog 140 1 := ⟨Tryd.sizeOf140⟩
instance ia140 : AggC Tryd.prog 140 false := ⟨Tryd.isAgg140⟩
instance iz140 : ZeroC Tryd.prog 140 (Value.nilFunc) := ⟨Tryd.zeroValue140⟩
instance iu141 : Und Tryd.prog 141 (TypeDesc.slice 129) := ⟨Tryd.underlying141⟩
instance in141 : NotIface Tryd.prog 141 := ⟨_, Tryd.underlying141, rfl⟩
instance is141 : SizeC Tryd.prog 141 1 := ⟨Tryd.sizeOf141⟩
instance ia141 : AggC Tryd.prog 141 false := ⟨Tryd.isAgg141⟩
instance iz141 : ZeroC Tryd.prog 141 (Value.slice Option.none 0 0) := ⟨Tryd.zeroValue141⟩
instance in142 : NotIface Tryd.prog 142 := ⟨_, Tryd.underlying142, rfl⟩
instance is142 : SizeC Tryd.prog 142 1 := ⟨Tryd.sizeOf142⟩
instance ia142 : AggC Tryd.prog 142 false := ⟨Tryd.isAgg142⟩
instance iz142 : ZeroC Tryd.prog 142 (Value.tuple #[Value.slice Option.none 0 0, Value.int IntKind.i64 0]) := ⟨Tryd.zeroValue142⟩
instance in143 : NotIface Tryd.prog 143 := ⟨_, Tryd.underlying143, rfl⟩
instance is143 : SizeC Tryd.prog 143 1 := ⟨Tryd.sizeOf143⟩
instance ia143 : AggC Tryd.prog 143 false := ⟨Tryd.isAgg143⟩
instance iz143 : ZeroC Tryd.prog 143 (Value.nilFunc) := ⟨Tryd.zeroValue143⟩
instance in144 : NotIface Tryd.prog 144 := ⟨_, Tryd.underlying144, rfl⟩
instance is144 : SizeC Tryd.prog 144 1 := ⟨Tryd.sizeOf144⟩
instance ia144 : AggC Tryd.prog 144 false := ⟨Tryd.isAgg144⟩
instance iz144 : ZeroC Tryd.prog 144 (Value.nilFunc) := ⟨Tryd.zeroValue144⟩
instance in145 : NotIface Tryd.prog 145 := ⟨_, Tryd.underlying145, rfl⟩
instance is145 : SizeC Tryd.prog 145 1 := ⟨Tryd.sizeOf145⟩
instance ia145 : AggC Tryd.prog 145 false := ⟨Tryd.isAgg145⟩
instance iz145 : ZeroC Tryd.prog 145 (Value.nilFunc) := ⟨Tryd.zeroValue145⟩
instance iu146 : Und Tryd.prog 146 (TypeDesc.array 128 5) := ⟨Tryd.underlying146⟩
instance in146 : NotIface Tryd.prog 146 := ⟨_, Tryd.underlying146, rfl⟩
instance is146 : SizeC Tryd.prog 146 128 := ⟨Tryd.sizeOf146⟩
instance ia146 : AggC Tryd.prog 146 true := ⟨Tryd.isAgg146⟩
instance iz146 : ZeroC Tryd.prog 146 (Value.agg Proofs.Tryd.zeroCells146) := ⟨Tryd.zeroValue146⟩
instance iu147 : Und Tryd.prog 147 (TypeDesc.array 128 5) := ⟨Tryd.underlying147⟩
instance in147 : NotIface Tryd.prog 147 := ⟨_, Tryd.underlying147, rfl⟩
instance is147 : SizeC Tryd.prog 147 128 := ⟨Tryd.sizeOf147⟩
instance ia147 : AggC Tryd.prog 147 true := ⟨Tryd.isAgg147⟩
instance iz147 : ZeroC Tryd.prog 147 (Value.agg Proofs.Tryd.zeroCells147) := ⟨Tryd.zeroValue147⟩
instance in148 : NotIface Tryd.prog 148 := ⟨_, Tryd.underlying148, rfl⟩
instance if148_0 : FieldC Tryd.prog 148 0 0 := ⟨_, _, _, Tryd.underlying148, rfl, rfl, Tryd.sizeOf3, rfl⟩
instance if148_1 : FieldC Tryd.prog 148 1 1 := ⟨_, _, _, Tryd.underlying148, rfl, rfl, Tryd.sizeOf147, rfl⟩
instance ib148 : BuildC Tryd.prog 148 #[(0, 1), (1, 128)] := ⟨_, Tryd.underlying148, fun w => by simp [Tryd.sizeOf147, Tryd.sizeOf3]⟩
instance is148 : SizeC Tryd.prog 148 129 := ⟨Tryd.sizeOf148⟩
instance ia148 : AggC Tryd.prog 148 true := ⟨Tryd.isAgg148⟩
instance iz148 : ZeroC Tryd.prog 148 (Value.agg Proofs.Tryd.zeroCells148) := ⟨Tryd.zeroValue148⟩
instance in149 : NotIface Tryd.prog 149 := ⟨_, Tryd.underlying149, rfl⟩
instance if149_0 : FieldC Tryd.prog 149 0 0 := ⟨_, _, _, Tryd.underlying149, rfl, rfl, Tryd.sizeOf3, rfl⟩
instance if149_1 : FieldC Tryd.prog 149 1 1 := ⟨_, _, _, Tryd.underlying149, rfl, rfl, Tryd.sizeOf147, rfl⟩
instance ib149 : BuildC Tryd.prog 149 #[(0, 1), (1, 128)] := ⟨_, Tryd.underlying149, fun w => by simp [Tryd.sizeOf147, Tryd.sizeOf3]⟩
instance is149 : SizeC Tryd.prog 149 129 := ⟨Tryd.sizeOf149⟩
instance ia149 : AggC Tryd.prog 149 true := ⟨Tryd.isAgg149⟩
instance iz149 : ZeroC Tryd.prog 149 (Value.agg Proofs.Tryd.zeroCells149) := ⟨Tryd.zeroValue149⟩
instance in150 : NotIface Tryd.prog 150 := ⟨_, Tryd.underlying150, rfl⟩
instance is150 : SizeC Tryd.prog 150 1 := ⟨Tryd.sizeOf150⟩
instance ia150 : AggC Tryd.prog 150 false := ⟨Tryd.isAgg150⟩
instance iz150 : ZeroC Tryd.prog 150 (Value.nilFunc) := ⟨Tryd.zeroValue150⟩
instance in151 : NotIface Tryd.prog 151 := ⟨_, Tryd.underlying151, rfl⟩
instance is151 : SizeC Tryd.prog 151 1 := ⟨Tryd.sizeOf151⟩
instance ia151 : AggC Tryd.prog 151 false := ⟨Tryd.isAgg151⟩
instance iz151 : ZeroC Tryd.prog 151 (Value.nilFunc) := ⟨Tryd.zeroValue151⟩
instance iu152 : Und Tryd.prog 152 (TypeDesc.slice 104) := ⟨Tryd.underlying152⟩
instance in152 : NotIface Tryd.prog 152 := ⟨_, Tryd.underlying152, rfl⟩
instance is152 : SizeC Tryd.prog 152 1 := ⟨Tryd.sizeOf152⟩
instance ia152 : AggC Tryd.prog 152 false := ⟨Tryd.isAgg152⟩
instance iz152 : ZeroC Tryd.prog 152 (Value.slice Option.none 0 0) := ⟨Tryd.zeroValue152⟩
instance in153 : NotIface Tryd.prog 153 := ⟨_, Tryd.underlying153, rfl⟩
instance is153 : SizeC Tryd.prog 153 1 := ⟨Tryd.sizeOf153⟩
instance ia153 : AggC Tryd.prog 153 false := ⟨Tryd.isAgg153⟩
instance iz153 : ZeroC Tryd.prog 153 (Value.nilFunc) := ⟨Tryd.zeroValue153⟩
instance in154 : NotIface Tryd.prog 154 := ⟨_, Tryd.underlying154, rfl⟩
instance if154_0 : FieldC Tryd.prog 154 0 0 := ⟨_, _, _, Tryd.underlying154, rfl, rfl, Tryd.sizeOf3, rfl⟩
instance if154_1 : FieldC Tryd.prog 154 1 1 := ⟨_, _, _, Tryd.underlying154, rfl, rfl, Tryd.sizeOf9, rfl⟩
instance ib154 : BuildC Tryd.prog 154 #[(0, 1), (1, 1)] := ⟨_, Tryd.underlying154, fun w => by simp [Tryd.sizeOf3, Tryd.sizeOf9]⟩
instance is154 : SizeC Tryd.prog 154 2 := ⟨Tryd.sizeOf154⟩
instance ia154 : AggC Tryd.prog 154 true := ⟨Tryd.isAgg154⟩
instance iz154 : ZeroC Tryd.prog 154 (Value.agg #[Value.int IntKind.i64 0, Value.string { data := #[] }]) := ⟨Tryd.zeroValue154⟩
instance in155 : NotIface Tryd.prog 155 := ⟨_, Tryd.underlying155, rfl⟩
instance if155_0 : FieldC Tryd.prog 155 0 0 := ⟨_, _, _, Tryd.underlying155, rfl, rfl, Tryd.sizeOf3, rfl⟩
instance if155_1 : FieldC Tryd.prog 155 1 1 := ⟨_, _, _, Tryd.underlying155, rfl, rfl, Tryd.sizeOf9, rfl⟩
instance ib155 : BuildC Tryd.prog 155 #[(0, 1), (1, 1)] := ⟨_, Tryd.underlying155, fun w => by simp [Tryd.sizeOf3, Tryd.sizeOf9]⟩
instance is155 : SizeC Tryd.prog 155 2 := ⟨Tryd.sizeOf155⟩
instance ia155 : AggC Tryd.prog 155 true := ⟨Tryd.isAgg155⟩
instance iz155 : ZeroC Tryd.prog 155 (Value.agg #[Value.int IntKind.i64 0, Value.string { data := #[] }]) := ⟨Tryd.zeroValue155⟩
instance in156 : NotIface Tryd.prog 156 := ⟨_, Tryd.underlying156, rfl⟩
instance is156 : SizeC Tryd.prog 156 1 := ⟨Tryd.sizeOf156⟩
instance ia156 : AggC Tryd.prog 156 false := ⟨Tryd.isAgg156⟩
instance iz156 : ZeroC Tryd.prog 156 (Value.nilFunc) := ⟨Tryd.zeroValue156⟩
instance in157 : NotIface Tryd.prog 157 := ⟨_, Tryd.underlying157, rfl⟩
instance is157 : SizeC Tryd.prog 157 1 := ⟨Tryd.sizeOf157⟩
instance ia157 : AggC Tryd.prog 157 false := ⟨Tryd.isAgg157⟩
instance iz157 : ZeroC Tryd.prog 157 (Value.nilFunc) := ⟨Tryd.zeroValue157⟩
instance in158 : NotIface Tryd.prog 158 := ⟨_, Tryd.underlying158, rfl⟩
instance is158 : SizeC Tryd.prog 158 1 := ⟨Tryd.sizeOf158⟩
instance ia158 : AggC Tryd.prog 158 false := ⟨Tryd.isAgg158⟩
instance iz158 : ZeroC Tryd.prog 158 (Value.nilFunc) := ⟨Tryd.zeroValue158⟩
instance in159 : NotIface Tryd.prog 159 := ⟨_, Tryd.underlying159, rfl⟩
instance is159 : SizeC Tryd.prog 159 1 := ⟨Tryd.sizeOf159⟩
instance ia159 : AggC Tryd.prog 159 false := ⟨Tryd.isAgg159⟩
instance iz159 : ZeroC Tryd.prog 159 (Value.nilFunc) := ⟨Tryd.zeroValue159⟩
instance in160 : NotIface Tryd.prog 160 := ⟨_, Tryd.underlying160, rfl⟩
instance is160 : SizeC Tryd.prog 160 1 := ⟨Tryd.sizeOf160⟩
instance ia160 : AggC Tryd.prog 160 false := ⟨Tryd.isAgg160⟩
instance iz160 : ZeroC Tryd.prog 160 (Value.nilFunc) := ⟨Tryd.zeroValue160⟩
instance in161 : NotIface Tryd.prog 161 := ⟨_, Tryd.underlying161, rfl⟩
instance is161 : SizeC Tryd.prog 161 1 := ⟨Tryd.sizeOf161⟩
instance ia161 : AggC Tryd.prog 161 false := ⟨Tryd.isAgg161⟩
instance iz161 : ZeroC Tryd.prog 161 (Value.tuple #[Value.int IntKind.i64 0, Value.bool false]) := ⟨Tryd.zeroValue161⟩
instance iu162 : Und Tryd.prog 162 (TypeDesc.int IntKind.u64) := ⟨Tryd.underlying162⟩
instance in162 : NotIface Tryd.prog 162 := ⟨_, Tryd.underlying162, rfl⟩
instance is162 : SizeC Tryd.prog 162 1 := ⟨Tryd.sizeOf162⟩
instance ia162 : AggC Tryd.prog 162 false := ⟨Tryd.isAgg162⟩
instance iz162 : ZeroC Tryd.prog 162 (Value.int IntKind.u64 0) := ⟨Tryd.zeroValue162⟩
instance in163 : NotIface Tryd.prog 163 := ⟨_, Tryd.underlying163, rfl⟩
instance is163 : SizeC Tryd.prog 163 1 := ⟨Tryd.sizeOf163⟩
instance ia163 : AggC Tryd.prog 163 false := ⟨Tryd.isAgg163⟩
instance iz163 : ZeroC Tryd.prog 163 (Value.tuple #[Value.string { data := #[] }, Value.bool false]) := ⟨Tryd.zeroValue163⟩
instance in164 : NotIface Tryd.prog 164 := ⟨_, Tryd.underlying164, rfl⟩
instance is164 : SizeC Tryd.prog 164 1 := ⟨Tryd.sizeOf164⟩
instance ia164 : AggC Tryd.prog 164 false := ⟨Tryd.isAgg164⟩
instance iz164 : ZeroC Tryd.prog 164 (Value.nilFunc) := ⟨Tryd.zeroValue164⟩
instance iu165 : Und Tryd.prog 165 (TypeDesc.array 16 70) := ⟨Tryd.underlying165⟩
instance in165 : NotIface Tryd.prog 165 := ⟨_, Tryd.underlying165, rfl⟩
instance is165 : SizeC Tryd.prog 165 16 := ⟨Tryd.sizeOf165⟩
instance ia165 : AggC Tryd.prog 165 true := ⟨Tryd.isAgg165⟩
instance iz165 : ZeroC Tryd.prog 165 (Value.agg (Array.replicate 16 (Value.int IntKind.u32 0))) := ⟨Tryd.zeroValue165⟩
instance in166 : NotIface Tryd.prog 166 := ⟨_, Tryd.underlying166, rfl⟩
instance if166_0 : FieldC Tryd.prog 166 0 0 := ⟨_, _, _, Tryd.underlying166, rfl, rfl, Tryd.sizeOf17, rfl⟩
instance if166_1 : FieldC Tryd.prog 166 1 1 := ⟨_, _, _, Tryd.underlying166, rfl, rfl, Tryd.sizeOf17, rfl⟩
instance if166_2 : FieldC Tryd.prog 166 2 2 := ⟨_, _, _, Tryd.underlying166, rfl, rfl, Tryd.sizeOf17, rfl⟩
instance if166_3 : FieldC Tryd.prog 166 3 3 := ⟨_, _, _, Tryd.underlying166, rfl, rfl, Tryd.sizeOf9, rfl⟩
instance ib166 : BuildC Tryd.prog 166 #[(0, 1), (1, 1), (2, 1), (3, 1)] := ⟨_, Tryd.underlying166, fun w => by simp [Tryd.sizeOf17, Tryd.sizeOf9]⟩
instance is166 : SizeC Tryd.prog 166 4 := ⟨Tryd.sizeOf166⟩
instance ia166 : AggC Tryd.prog 166 true := ⟨Tryd.isAgg166⟩
instance iz166 : ZeroC Tryd.prog 166 (Value.agg #[Value.pointer Option.none, Value.pointer Option.none, Value.pointer Option.none, Value.string { data := #[] }]) := ⟨Tryd.zeroValue166⟩
instance in167 : NotIface Tryd.prog 167 := ⟨_, Tryd.underlying167, rfl⟩
instance if167_0 : FieldC Tryd.prog 167 0 0 := ⟨_, _, _, Tryd.underlying167, rfl, rfl, Tryd.sizeOf17, rfl⟩
instance if167_1 : FieldC Tryd.prog 167 1 1 := ⟨_, _, _, Tryd.underlying167, rfl, rfl, Tryd.sizeOf17, rfl⟩
instance if167_2 : FieldC Tryd.prog 167 2 2 := ⟨_, _, _, Tryd.underlying167, rfl, rfl, Tryd.sizeOf17, rfl⟩
instance if167_3 : FieldC Tryd.prog 167 3 3 := ⟨_, _, _, Tryd.underlying167, rfl, rfl, Tryd.sizeOf9, rfl⟩
instance ib167 : BuildC Tryd.prog 167 #[(0, 1), (1, 1), (2, 1), (3, 1)] := ⟨_, Tryd.underlying167, fun w => by simp [Tryd.sizeOf17, Tryd.sizeOf9]⟩
instance is167 : SizeC Tryd.prog 167 4 := ⟨Tryd.sizeOf167⟩
instance ia167 : AggC Tryd.prog 167 true := ⟨Tryd.isAgg167⟩
instance iz167 : ZeroC Tryd.prog 167 (Value.agg #[Value.pointer Option.none, Value.pointer Option.none, Value.pointer Option.none, Value.string { data := #[] }]) := ⟨Tryd.zeroValue167⟩
instance iu168 : Und Tryd.prog 168 (TypeDesc.array 0 16) := ⟨Tryd.underlying168⟩
instance in168 : NotIface Tryd.prog 168 := ⟨_, Tryd.underlying168, rfl⟩
instance is168 : SizeC Tryd.prog 168 0 := ⟨Tryd.sizeOf168⟩
instance ia168 : AggC Tryd.prog 168 true := ⟨Tryd.isAgg168⟩
instance iz168 : ZeroC Tryd.prog 168 (Value.agg #[]) := ⟨Tryd.zeroValue168⟩
instance in169 : NotIface Tryd.prog 169 := ⟨_, Tryd.underlying169, rfl⟩
instance ib169 : BuildC Tryd.prog 169 #[(0, 0)] := ⟨_, Tryd.underlying169, fun w => by simp [Tryd.sizeOf168]⟩
instance is169 : SizeC Tryd.prog 169 0 := ⟨Tryd.sizeOf169⟩
instance ia169 : AggC Tryd.prog 169 true := ⟨Tryd.isAgg169⟩
instance iz169 : ZeroC Tryd.prog 169 (Value.agg #[]) := ⟨Tryd.zeroValue169⟩
instance in170 : NotIface Tryd.prog 170 := ⟨_, Tryd.underlying170, rfl⟩
instance ib170 : BuildC Tryd.prog 170 #[(0, 0)] := ⟨_, Tryd.underlying170, fun w => by simp [Tryd.sizeOf168]⟩
instance is170 : SizeC Tryd.prog 170 0 := ⟨Tryd.sizeOf170⟩
instance ia170 : AggC Tryd.prog 170 true := ⟨Tryd.isAgg170⟩
instance iz170 : ZeroC Tryd.prog 170 (Value.agg #[]) := ⟨Tryd.zeroValue170⟩
instance iu171 : Und Tryd.prog 171 (TypeDesc.int IntKind.u8) := ⟨Tryd.underlying171⟩
instance in171 : NotIface Tryd.prog 171 := ⟨_, Tryd.underlying171, rfl⟩
instance is171 : SizeC Tryd.prog 171 1 := ⟨Tryd.sizeOf171⟩
instance ia171 : AggC Tryd.prog 171 false := ⟨Tryd.isAgg171⟩
instance iz171 : ZeroC Tryd.prog 171 (Value.int IntKind.u8 0) := ⟨Tryd.zeroValue171⟩
instance iu172 : Und Tryd.prog 172 (TypeDesc.int IntKind.u8) := ⟨Tryd.underlying172⟩
instance in172 : NotIface Tryd.prog 172 := ⟨_, Tryd.underlying172, rfl⟩
instance is172 : SizeC Tryd.prog 172 1 := ⟨Tryd.sizeOf172⟩
instance ia172 : AggC Tryd.prog 172 false := ⟨Tryd.isAgg172⟩
instance iz172 : ZeroC Tryd.prog 172 (Value.int IntKind.u8 0) := ⟨Tryd.zeroValue172⟩
instance in173 : NotIface Tryd.prog 173 := ⟨_, Tryd.underlying173, rfl⟩
instance is173 : SizeC Tryd.prog 173 1 := ⟨Tryd.sizeOf173⟩
instance ia173 : AggC Tryd.prog 173 false := ⟨Tryd.isAgg173⟩
instance iz173 : ZeroC Tryd.prog 173 (Value.nilFunc) := ⟨Tryd.zeroValue173⟩
instance iu174 : Und Tryd.prog 174 (TypeDesc.pointer 5) := ⟨Tryd.underlying174⟩
instance in174 : NotIface Tryd.prog 174 := ⟨_, Tryd.underlying174, rfl⟩
instance is174 : SizeC Tryd.prog 174 1 := ⟨Tryd.sizeOf174⟩
instance ia174 : AggC Tryd.prog 174 false := ⟨Tryd.isAgg174⟩
instance iz174 : ZeroC Tryd.prog 174 (Value.pointer Option.none) := ⟨Tryd.zeroValue174⟩
instance iu175 : Und Tryd.prog 175 (TypeDesc.int IntKind.i32) := ⟨Tryd.underlying175⟩
instance in175 : NotIface Tryd.prog 175 := ⟨_, Tryd.underlying175, rfl⟩
instance is175 : SizeC Tryd.prog 175 1 := ⟨Tryd.sizeOf175⟩
instance ia175 : AggC Tryd.prog 175 false := ⟨Tryd.isAgg175⟩
instance iz175 : ZeroC Tryd.prog 175 (Value.int IntKind.i32 0) := ⟨Tryd.zeroValue175⟩
instance iu176 : Und Tryd.prog 176 (TypeDesc.int IntKind.i32) := ⟨Tryd.underlying176⟩
instance in176 : NotIface Tryd.prog 176 := ⟨_, Tryd.underlying176, rfl⟩
instance is176 : SizeC Tryd.prog 176 1 := ⟨Tryd.sizeOf176⟩
instance ia176 : AggC Tryd.prog 176 false := ⟨Tryd.isAgg176⟩
instance iz176 : ZeroC Tryd.prog 176 (Value.int IntKind.i32 0) := ⟨Tryd.zeroValue176⟩
instance in177 : NotIface Tryd.prog 177 := ⟨_, Tryd.underlying177, rfl⟩
instance if177_0 : FieldC Tryd.prog 177 0 0 := ⟨_, _, _, Tryd.underlying177, rfl, rfl, Tryd.sizeOf12, rfl⟩
instance if177_1 : FieldC Tryd.prog 177 1 1 := ⟨_, _, _, Tryd.underlying177, rfl, rfl, Tryd.sizeOf12, rfl⟩
instance if177_2 : FieldC Tryd.prog 177 2 2 := ⟨_, _, _, Tryd.underlying177, rfl, rfl, Tryd.sizeOf70, rfl⟩
instance if177_3 : FieldC Tryd.prog 177 3 3 := ⟨_, _, _, Tryd.underlying177, rfl, rfl, Tryd.sizeOf171, rfl⟩
instance if177_4 : FieldC Tryd.prog 177 4 4 := ⟨_, _, _, Tryd.underlying177, rfl, rfl, Tryd.sizeOf5, rfl⟩
instance if177_5 : FieldC Tryd.prog 177 5 5 := ⟨_, _, _, Tryd.underlying177, rfl, rfl, Tryd.sizeOf5, rfl⟩
instance if177_6 : FieldC Tryd.prog 177 6 6 := ⟨_, _, _, Tryd.underlying177, rfl, rfl, Tryd.sizeOf172, rfl⟩
instance if177_7 : FieldC Tryd.prog 177 7 7 := ⟨_, _, _, Tryd.underlying177, rfl, rfl, Tryd.sizeOf173, rfl⟩
instance if177_8 : FieldC Tryd.prog 177 8 8 := ⟨_, _, _, Tryd.underlying177, rfl, rfl, Tryd.sizeOf174, rfl⟩
instance if177_9 : FieldC Tryd.prog 177 9 9 := ⟨_, _, _, Tryd.underlying177, rfl, rfl, Tryd.sizeOf175, rfl⟩
instance if177_10 : FieldC Tryd.prog 177 10 10 := ⟨_, _, _, Tryd.underlying177, rfl, rfl, Tryd.sizeOf176, rfl⟩
instance ib177 : BuildC Tryd.prog 177 #[(0, 1), (1, 1), (2, 1), (3, 1), (4, 1), (5, 1), (6, 1), (7, 1), (8, 1), (9, 1), (10, 1)] := ⟨_, Tryd.underlying177, fun w => by simp [Tryd.sizeOf12, Tryd.sizeOf171, Tryd.sizeOf172, Tryd.sizeOf173, Tryd.sizeOf174, Tryd.sizeOf175, Tryd.sizeOf176, Tryd.sizeOf5, Tryd.sizeOf70]⟩
instance is177 : SizeC Tryd.prog 177 11 := ⟨Tryd.sizeOf177⟩
instance ia177 : AggC Tryd.prog 177 true := ⟨Tryd.isAgg177⟩
instance iz177 : ZeroC Tryd.prog 177 (Value.agg #[Value.int IntKind.u64 0, Value.int IntKind.u64 0, Value.int IntKind.u32 0, Value.int IntKind.u8 0, Value.int IntKind.u8 0, Value.int IntKind.u8 0, Value.int IntKind.u8 0, Value.nilFunc, Value.pointer Option.none, Value.int IntKind.i32 0, Value.int IntKind.i32 0]) := ⟨Tryd.zeroValue177⟩
instance in178 : NotIface Tryd.prog 178 := ⟨_, Tryd.underlying178, rfl⟩
instance if178_0 : FieldC Tryd.prog 178 0 0 := ⟨_, _, _, Tryd.underlying178, rfl, rfl, Tryd.sizeOf12, rfl⟩
instance if178_1 : FieldC Tryd.prog 178 1 1 := ⟨_, _, _, Tryd.underlying178, rfl, rfl, Tryd.sizeOf12, rfl⟩
instance if178_2 : FieldC Tryd.prog 178 2 2 := ⟨_, _, _, Tryd.underlying178, rfl, rfl, Tryd.sizeOf70, rfl⟩
instance if178_3 : FieldC Tryd.prog 178 3 3 := ⟨_, _, _, Tryd.underlying178, rfl, rfl, Tryd.sizeOf171, rfl⟩
instance if178_4 : FieldC Tryd.prog 178 4 4 := ⟨_, _, _, Tryd.underlying178, rfl, rfl, Tryd.sizeOf5, rfl⟩
instance if178_5 : FieldC Tryd.prog 178 5 5 := ⟨_, _, _, Tryd.underlying178, rfl, rfl, Tryd.sizeOf5, rfl⟩
instance if178_6 : FieldC Tryd.prog 178 6 6 := ⟨_, _, _, Tryd.underlying178, rfl, rfl, Tryd.sizeOf172, rfl⟩
instance if178_7 : FieldC Tryd.prog 178 7 7 := ⟨_, _, _, Tryd.underlying178, rfl, rfl, Tryd.sizeOf173, rfl⟩
instance if178_8 : FieldC Tryd.prog 178 8 8 := ⟨_, _, _, Tryd.underlying178, rfl, rfl, Tryd.sizeOf174, rfl⟩
instance if178_9 : FieldC Tryd.prog 178 9 9 := ⟨_, _, _, Tryd.underlying178, rfl, rfl, Tryd.sizeOf175, rfl⟩
instance if178_10 : FieldC Tryd.prog 178 10 10 := ⟨_, _, _, Tryd.underlying178, rfl, rfl, Tryd.sizeOf176, rfl⟩
instance ib178 : BuildC Tryd.prog 178 #[(0, 1), (1, 1), (2, 1), (3, 1), (4, 1), (5, 1), (6, 1), (7, 1), (8, 1), (9, 1), (10, 1)] := ⟨_, Tryd.underlying178, fun w => by simp [Tryd.sizeOf12, Tryd.sizeOf171, Tryd.sizeOf172, Tryd.sizeOf173, Tryd.sizeOf174, Tryd.sizeOf175, Tryd.sizeOf176, Tryd.sizeOf5, Tryd.sizeOf70]⟩
instance is178 : SizeC Tryd.prog 178 11 := ⟨Tryd.sizeOf178⟩
instance ia178 : AggC Tryd.prog 178 true := ⟨Tryd.isAgg178⟩
instance iz178 : ZeroC Tryd.prog 178 (Value.agg #[Value.int IntKind.u64 0, Value.int IntKind.u64 0, Value.int IntKind.u32 0, Value.int IntKind.u8 0, Value.int IntKind.u8 0, Value.int IntKind.u8 0, Value.int IntKind.u8 0, Value.nilFunc, Value.pointer Option.none, Value.int IntKind.i32 0, Value.int IntKind.i32 0]) := ⟨Tryd.zeroValue178⟩
instance in179 : NotIface Tryd.prog 179 := ⟨_, Tryd.underlying179, rfl⟩
instance is179 : SizeC Tryd.prog 179 1 := ⟨Tryd.sizeOf179⟩
instance ia179 : AggC Tryd.prog 179 false := ⟨Tryd.isAgg179⟩
instance iz179 : ZeroC Tryd.prog 179 (Value.pointer Option.none) := ⟨Tryd.zeroValue179⟩
instance ie3 : ElemC Tryd.prog 3 1 8 := ⟨Tryd.t3, _, info_of Tryd.typeInfo3, rfl, rfl, rfl, rfl, by decide⟩
instance ie5 : ElemC Tryd.prog 5 1 1 := ⟨Tryd.t5, _, info_of Tryd.typeInfo5, rfl, rfl, rfl, rfl, by decide⟩
instance ie9 : ElemC Tryd.prog 9 1 16 := ⟨Tryd.t9, _, info_of Tryd.typeInfo9, rfl, rfl, rfl, rfl, by decide⟩
instance ie22 : ElemC Tryd.prog 22 1 24 := ⟨Tryd.t22, _, info_of Tryd.typeInfo22, rfl, rfl, rfl, rfl, by decide⟩
instance ie58 : ElemC Tryd.prog 58 1 8 := ⟨Tryd.t58, _, info_of Tryd.typeInfo58, rfl, rfl, rfl, rfl, by decide⟩
instance ie66 : ElemC Tryd.prog 66 1 8 := ⟨Tryd.t66, _, info_of Tryd.typeInfo66, rfl, rfl, rfl, rfl, by decide⟩
instance ie72 : ElemC Tryd.prog 72 4 32 := ⟨Tryd.t72, _, info_of Tryd.typeInfo72, rfl, rfl, rfl, rfl, by decide⟩
instance ie104 : ElemC Tryd.prog 104 1 8 := ⟨Tryd.t104, _, info_of Tryd.typeInfo104, rfl, rfl, rfl, rfl, by decide⟩
instance ie129 : ElemC Tryd.prog 129 1 8 := ⟨Tryd.t129, _, info_of Tryd.typeInfo129, rfl, rfl, rfl, rfl, by decide⟩
instance ie131 : ElemC Tryd.prog 131 2 16 := ⟨Tryd.t131, _, info_of Tryd.typeInfo131, rfl, rfl, rfl, rfl, by decide⟩
instance ie147 : ElemC Tryd.prog 147 128 128 := ⟨Tryd.t147, _, info_of Tryd.typeInfo147, rfl, rfl, rfl, rfl, by decide⟩
instance ie149 : ElemC Tryd.prog 149 129 136 := ⟨Tryd.t149, _, info_of Tryd.typeInfo149, rfl, rfl, rfl, rfl, by decide⟩
instance ie155 : ElemC Tryd.prog 155 2 24 := ⟨Tryd.t155, _, info_of Tryd.typeInfo155, rfl, rfl, rfl, rfl, by decide⟩
instance ic2 : CallC Tryd.prog 2 := ⟨Tryd.call2⟩
instance ic3 : CallC Tryd.prog 3 := ⟨Tryd.call3⟩
instance ic4 : CallC Tryd.prog 4 := ⟨Tryd.call4⟩
instance ic5 : CallC Tryd.prog 5 := ⟨Tryd.call5⟩
instance ic6 : CallC Tryd.prog 6 := ⟨Tryd.call6⟩
instance ic7 : CallC Tryd.prog 7 := ⟨Tryd.call7⟩
instance ic8 : CallC Tryd.prog 8 := ⟨Tryd.call8⟩
instance ic9 : CallC Tryd.prog 9 := ⟨Tryd.call9⟩
instance ic10 : CallC Tryd.prog 10 := ⟨Tryd.call10⟩
instance ic11 : CallC Tryd.prog 11 := ⟨Tryd.call11⟩
instance ic12 : CallC Tryd.prog 12 := ⟨Tryd.call12⟩
instance ic13 : CallC Tryd.prog 13 := ⟨Tryd.call13⟩
instance ic14 : CallC Tryd.prog 14 := ⟨Tryd.call14⟩
instance ic15 : CallC Tryd.prog 15 := ⟨Tryd.call15⟩
instance ic16 : CallC Tryd.prog 16 := ⟨Tryd.call16⟩
instance ic17 : CallC Tryd.prog 17 := ⟨Tryd.call17⟩
instance ic18 : CallC Tryd.prog 18 := ⟨Tryd.call18⟩
instance ic19 : CallC Tryd.prog 19 := ⟨Tryd.call19⟩
instance ic20 : CallC Tryd.prog 20 := ⟨Tryd.call20⟩
instance ic21 : CallC Tryd.prog 21 := ⟨Tryd.call21⟩
instance ic22 : CallC Tryd.prog 22 := ⟨Tryd.call22⟩
instance ic23 : CallC Tryd.prog 23 := ⟨Tryd.call23⟩
instance ic24 : CallC Tryd.prog 24 := ⟨Tryd.call24⟩
instance ic25 : CallC Tryd.prog 25 := ⟨Tryd.call25⟩
instance ic26 : CallC Tryd.prog 26 := ⟨Tryd.call26⟩
instance ic27 : CallC Tryd.prog 27 := ⟨Tryd.call27⟩
instance ic28 : CallC Tryd.prog 28 := ⟨Tryd.call28⟩
instance ic29 : CallC Tryd.prog 29 := ⟨Tryd.call29⟩
instance ic30 : CallC Tryd.prog 30 := ⟨Tryd.call30⟩
instance ic31 : CallC Tryd.prog 31 := ⟨Tryd.call31⟩
instance ic32 : CallC Tryd.prog 32 := ⟨Tryd.call32⟩
instance ic33 : CallC Tryd.prog 33 := ⟨Tryd.call33⟩
instance ic34 : CallC Tryd.prog 34 := ⟨Tryd.call34⟩
instance ic35 : CallC Tryd.prog 35 := ⟨Tryd.call35⟩
instance ic36 : CallC Tryd.prog 36 := ⟨Tryd.call36⟩
instance ic37 : CallC Tryd.prog 37 := ⟨Tryd.call37⟩
instance ic38 : CallC Tryd.prog 38 := ⟨Tryd.call38⟩
instance ic39 : CallC Tryd.prog 39 := ⟨Tryd.call39⟩
instance ic40 : CallC Tryd.prog 40 := ⟨Tryd.call40⟩
instance ic41 : CallC Tryd.prog 41 := ⟨Tryd.call41⟩
instance ic42 : CallC Tryd.prog 42 := ⟨Tryd.call42⟩
instance ic43 : CallC Tryd.prog 43 := ⟨Tryd.call43⟩
instance ic44 : CallC Tryd.prog 44 := ⟨Tryd.call44⟩
instance ic45 : CallC Tryd.prog 45 := ⟨Tryd.call45⟩
instance ic46 : CallC Tryd.prog 46 := ⟨Tryd.call46⟩
instance ic47 : CallC Tryd.prog 47 := ⟨Tryd.call47⟩
instance ic48 : CallC Tryd.prog 48 := ⟨Tryd.call48⟩
instance ic49 : CallC Tryd.prog 49 := ⟨Tryd.call49⟩
instance ic50 : CallC Tryd.prog 50 := ⟨Tryd.call50⟩
instance ic51 : CallC Tryd.prog 51 := ⟨Tryd.call51⟩
instance ic52 : CallC Tryd.prog 52 := ⟨Tryd.call52⟩
instance ic53 : CallC Tryd.prog 53 := ⟨Tryd.call53⟩
instance ic54 : CallC Tryd.prog 54 := ⟨Tryd.call54⟩
instance ic55 : CallC Tryd.prog 55 := ⟨Tryd.call55⟩
instance ic56 : CallC Tryd.prog 56 := ⟨Tryd.call56⟩
instance ic57 : CallC Tryd.prog 57 := ⟨Tryd.call57⟩
instance ic58 : CallC Tryd.prog 58 := ⟨Tryd.call58⟩
instance ic59 : CallC Tryd.prog 59 := ⟨Tryd.call59⟩
instance ic60 : CallC Tryd.prog 60 := ⟨Tryd.call60⟩
instance ic61 : CallC Tryd.prog 61 := ⟨Tryd.call61⟩
instance ic62 : CallC Tryd.prog 62 := ⟨Tryd.call62⟩
instance ic63 : CallC Tryd.prog 63 := ⟨Tryd.call63⟩
instance ic64 : CallC Tryd.prog 64 := ⟨Tryd.call64⟩
instance ic65 : CallC Tryd.prog 65 := ⟨Tryd.call65⟩
instance ic66 : CallC Tryd.prog 66 := ⟨Tryd.call66⟩
instance ic67 : CallC Tryd.prog 67 := ⟨Tryd.call67⟩
instance ic68 : CallC Tryd.prog 68 := ⟨Tryd.call68⟩
instance ic69 : CallC Tryd.prog 69 := ⟨Tryd.call69⟩
instance ic70 : CallC Tryd.prog 70 := ⟨Tryd.call70⟩
instance ic71 : CallC Tryd.prog 71 := ⟨Tryd.call71⟩
instance ic72 : CallC Tryd.prog 72 := ⟨Tryd.call72⟩
instance ic73 : CallC Tryd.prog 73 := ⟨Tryd.call73⟩
instance ic74 : CallC Tryd.prog 74 := ⟨Tryd.call74⟩
instance ic75 : CallC Tryd.prog 75 := ⟨Tryd.call75⟩
instance ic76 : CallC Tryd.prog 76 := ⟨Tryd.call76⟩
instance ic77 : CallC Tryd.prog 77 := ⟨Tryd.call77⟩
instance ic78 : CallC Tryd.prog 78 := ⟨Tryd.call78⟩
instance ic79 : CallC Tryd.prog 79 := ⟨Tryd.call79⟩
instance ic80 : CallC Tryd.prog 80 := ⟨Tryd.call80⟩
instance ic81 : CallC Tryd.prog 81 := ⟨Tryd.call81⟩
instance ic82 : CallC Tryd.prog 82 := ⟨Tryd.call82⟩
instance ic83 : CallC Tryd.prog 83 := ⟨Tryd.call83⟩
instance ic84 : CallC Tryd.prog 84 := ⟨Tryd.call84⟩
instance ic85 : CallC Tryd.prog 85 := ⟨Tryd.call85⟩
instance ic86 : CallC Tryd.prog 86 := ⟨Tryd.call86⟩
instance ic87 : CallC Tryd.prog 87 := ⟨Tryd.call87⟩
instance ic88 : CallC Tryd.prog 88 := ⟨Tryd.call88⟩
instance ic89 : CallC Tryd.prog 89 := ⟨Tryd.call89⟩
instance ic90 : CallC Tryd.prog 90 := ⟨Tryd.call90⟩
instance ic91 : CallC Tryd.prog 91 := ⟨Tryd.call91⟩
instance ic92 : CallC Tryd.prog 92 := ⟨Tryd.call92⟩
instance ic93 : CallC Tryd.prog 93 := ⟨Tryd.call93⟩
instance ic94 : CallC Tryd.prog 94 := ⟨Tryd.call94⟩
instance ic95 : CallC Tryd.prog 95 := ⟨Tryd.call95⟩
instance ic96 : CallC Tryd.prog 96 := ⟨Tryd.call96⟩
instance ic97 : CallC Tryd.prog 97 := ⟨Tryd.call97⟩
instance ic98 : CallC Tryd.prog 98 := ⟨Tryd.call98⟩
instance ic99 : CallC Tryd.prog 99 := ⟨Tryd.call99⟩
instance ic100 : CallC Tryd.prog 100 := ⟨Tryd.call100⟩
instance ic101 : CallC Tryd.prog 101 := ⟨Tryd.call101⟩
instance ic102 : CallC Tryd.prog 102 := ⟨Tryd.call102⟩
instance ic124 : CallC Tryd.prog 124 := ⟨Tryd.call124⟩
theorem follows : Tryd.prog.follows .mixedOrders = true := by kernel_rfl
end Go.Proofs.YtjdnflhejfcgdaaDoor

/-
  Checksums.
-/
namespace Go.Proofs.YtjdnflhejfcgdaaDoor
open Go Go.SL Go.Proofs

def halvesL : List Int := [0, 274646895, 549293790, 820201905, 1098587580, 1361435347, 1640403810, 1905808397, 2197175160, 2460548119, 2722870694, 2987750089, 3280807620, 3553878443, 3811616794, 4084100981]
def halvesC : Array Value := (halvesL.map fun z => Value.int .u32 z).toArray
/-- the table stands where the program's text lays it -/
class HalvesC (L : List HP) : Prop where
  h : ∃ T fr, Reads L 0 (.cells halvesC T fr)
instance (priority := low) HalvesC.tail {p : HP} {L : List HP} [h : HalvesC L] : HalvesC (p :: L) := ⟨let ⟨T, fr, k⟩ := h.h; ⟨T, fr, Reads.there k⟩⟩

def crcHalf (w : Int) : Int := bXor .u32 (bShr .u32 w 4) (halvesL.getD (bAnd .u32 w 15).toNat 0)
def crcByte (w z : Int) : Int := crcHalf (crcHalf (bXor .u32 w (IntKind.u32.wrap z)))
def crcW (w : Int) (l : List Int) : Int := l.foldl crcByte w
def crcSum (ls : List (List Int)) : Int := bNot .u32 (ls.foldl crcW 4294967295)

theorem and15 (w : Int) : 0 ≤ bAnd .u32 w 15 ∧ bAnd .u32 w 15 < 16 := by
  unfold bAnd
  have h : (BitVec.ofInt IntKind.u32.bits w &&& BitVec.ofInt IntKind.u32.bits 15).toNat < 16 := by
    rw [BitVec.toNat_and]
    exact Nat.lt_of_le_of_lt Nat.and_le_right (by decide)
  rw [wrap_u32_of (by omega)]
  omega

section
variable {w0 : World} {nt : Cx} {L : List HP} {env : Env} {ty : TypeId}
theorem L_halves {t : TypeId} {x : Operand} {j : Int} [AggC Tryd.prog t false] [hG : HalvesC L] (hx : evO env x = some (.pointer (some ⟨0, 0 + j.toNat * 1, none⟩))) (hj : 0 ≤ j ∧ j < 16) : OpR Tryd.prog w0 nt L env (.load t x) ty (.int .u32 (halvesL.getD j.toNat 0)) := by
  obtain ⟨T, fr, h⟩ := hG.h
  refine R_load hx h ?_
  have h1 : j.toNat < halvesL.length := by simp [halvesL]; omega
  simp only [halvesC, Nat.zero_add, Nat.mul_one]
  simp [h1]
end

structure BS where
  p : Option Addr
  n : Nat
  c : Nat
  l : List Int
def BS.cell (x : BS) : Array Value := #[.slice x.p x.n x.c]
theorem bs_get {l : List BS} {g : Nat} (h : g < l.length) : (l.map BS.cell).getD g #[] = #[.slice l[g].p l[g].n l[g].c] := by simp [h, BS.cell]
theorem u8_get {l : List Int} {g : Nat} (h : g < l.length) : (l.map u8c).getD g #[] = #[Value.int .u8 l[g]] := by simp [h, u8c]
theorem crcW_succ {w : Int} {l : List Int} {j : Nat} (h : j < l.length) : crcW w (l.take (j + 1)) = crcByte (crcW w (l.take j)) l[j] := by
  unfold crcW; rw [List.take_succ_eq_append_getElem h, List.foldl_append]; rfl

theorem crc_Sum (ps : List BS) {L : List HP} {p : Option Addr} {m cp : Nat} [HalvesC L] (hl : SlC L p 1 m cp (ps.map BS.cell)) (hb : ∀ x ∈ ps, SlC L x.p 1 x.n x.c (x.l.map u8c)) :
    Tr Tryd.prog 98 [.slice p m cp].toArray L (fun v L' => v = .int .u32 (crcSum (ps.map BS.l)) ∧ L = L') := by
  have hlen : ps.length = m := by simpa using hl.len
  have hbd := hl.bd
  refine tr_enter Tryd.func98 rfl Tryd.ntmps98 rfl fun w0 => ?_
  repeat' (first
    | refine swl_op ?_
    | (refine s1_move ?_; refine sc_r (R_move (by rfl)) (by rfl) ?_)
    | (refine s1_assign ?_; refine sc_r (R_assign (by rfl)) (by rfl) ?_)
    | (refine s1_call ?_; refine sc_r (R_len (by rfl)) (by rfl) ?_)
    | refine swl_nil ?_
    | refine sx_next ?_
    | refine sw_seq ?_
    | refine sw_region ?_
    | refine sw_block ?_
    | fail)
  refine sw_loop (γ := Nat × Int) (fun g => m - g.1) (fun g => [(8, .slice p m cp), (9, .int .i64 m), (10, .int .i64 g.1), (3, .int .u32 g.2)]) (fun _ => L) (fun g => g.1 ≤ m ∧ g.2 = ((ps.take g.1).map BS.l).foldl crcW 4294967295) (0, 4294967295) ⟨by simp, by simp⟩
    (subE.cons rfl (subE.cons rfl (subE.cons rfl (subE.cons rfl subE.nil)))) (by (repeat (first | exact Ent.refl _ | exact Ent.nil | (apply Ent.pick; focus ((repeat (first | exact Rem.here | apply Rem.there)); done)) | apply Ent.drop))) ?_
  rintro ⟨g, w⟩ ⟨hg, hw⟩
  dsimp only at hg hw ⊢
  by_cases hlt : g < m
  · obtain ⟨b1, o1, rfl⟩ := hl.ptr (by omega)
    have hl1 : g < ps.length := by omega
    have he1 := bs_get hl1
    have hx := hb ps[g] (List.getElem_mem hl1)
    have hts := List.take_succ_eq_append_getElem hl1
    generalize ps[g] = x at *
    obtain ⟨xp, xn, xc, xl⟩ := x
    dsimp only at he1 hx
    have hxl : xl.length = xn := by simpa using hx.len
    have hxb := hx.bd
    repeat' (first
    | refine swl_op ?_
    | (refine s1_move ?_; refine sc_r (R_move (by rfl)) (by rfl) ?_)
    | (refine s1_load ?_; refine sc_r (L_load_el1 (by rfl) (by infer_instance) (by omega) (by first | assumption | rfl)) (by rfl) ?_)
    | (refine s1_assign ?_; refine sc_r (R_assign (by rfl)) (by rfl) ?_)
    | (refine s1_bin ?_; refine sc_r (R_lss (by rfl) (by rfl)) (by rfl) ?_)
    | (refine s1_call ?_; refine sc_r (R_len (by rfl)) (by rfl) ?_)
    | (refine s1_indexAddr ?_; refine sc_r (R_indexAddr (by rfl) (by rfl) (by omega)) (by rfl) ?_)
    | refine swl_nil ?_
    | refine sx_next ?_
    | refine sw_seq ?_
    | refine sw_region ?_
    | refine sw_block ?_
    | refine sw_cond_pos (by rfl) (by first | assumption | omega) ?_
    | refine sw_skip ?_
    | fail)
    refine sw_loop (γ := Nat × Int) (fun j => xn - j.1) (fun j => [(8, .slice (some ⟨b1, o1, none⟩) m cp), (9, .int .i64 m), (10, .int .i64 g), (14, .slice xp xn xc), (15, .int .i64 xn), (16, .int .i64 j.1), (3, .int .u32 j.2)]) (fun _ => L) (fun j => j.1 ≤ xn ∧ j.2 = crcW w (xl.take j.1)) (0, w) ⟨by simp, by simp [crcW]⟩
      (subE.cons rfl (subE.cons rfl (subE.cons rfl (subE.cons rfl (subE.cons rfl (subE.cons rfl (subE.cons rfl subE.nil))))))) (by (repeat (first | exact Ent.refl _ | exact Ent.nil | (apply Ent.pick; focus ((repeat (first | exact Rem.here | apply Rem.there)); done)) | apply Ent.drop))) ?_
    rintro ⟨j, w1⟩ ⟨hj, hw1⟩
    dsimp only at hj hw1 ⊢
    by_cases hlt2 : j < xn
    · obtain ⟨b2, o2, rfl⟩ := hx.ptr (by omega)
      have hl2 : j < xl.length := by omega
      have he2 := u8_get hl2
      have hcw := crcW_succ (w := w) hl2
      generalize xl[j] = z at *
      repeat' (first
    | (refine s1_load ?_; refine sc_r (L_halves (by rfl) (and15 _)) (by rfl) ?_)
    | (refine s1_indexAddr ?_; refine sc_r (R_indexAddr_arr (by rfl) (by rfl) (and15 _)) (by rfl) ?_)
    | refine swl_op ?_
    | (refine s1_move ?_; refine sc_r (R_move (by rfl)) (by rfl) ?_)
    | (refine s1_load ?_; refine sc_r (L_load_el1 (by rfl) (by infer_instance) (by omega) (by first | assumption | rfl)) (by rfl) ?_)
    | (refine s1_assign ?_; refine sc_r (R_assign (by rfl)) (by rfl) ?_)
    | (refine s1_bin ?_; first | refine sc_r (R_lss (by rfl) (by rfl)) (by rfl) ?_ | refine sc_r (R_add64 (by rfl) (by rfl) (by omega)) (by rfl) ?_ | refine sc_r (R_xor (by rfl) (by rfl)) (by rfl) ?_ | refine sc_r (R_shr (by rfl) (by rfl) (by omega)) (by rfl) ?_ | refine sc_r (R_and (by rfl) (by rfl)) (by rfl) ?_)
    | (refine s1_indexAddr ?_; refine sc_r (R_indexAddr (by rfl) (by rfl) (by omega)) (by rfl) ?_)
    | (refine s1_conv ?_; refine sc_r (R_conv (by rfl)) (by rfl) ?_)
    | refine swl_nil ?_
    | refine sx_next ?_
    | refine sw_seq ?_
    | refine sw_region ?_
    | refine sw_block ?_
    | refine sx_block_normal ?_
    | refine sw_cond_pos (by rfl) (by first | assumption | omega) ?_
    | refine sw_skip ?_
    | fail)
      refine sx_back (j + 1, crcByte w1 z) (by simp only; omega) ⟨by simp only; omega, by rw [hcw, hw1]⟩ (subE.cons rfl (subE.cons rfl (subE.cons rfl (subE.cons rfl (subE.cons rfl (subE.cons rfl (subE.cons rfl subE.nil))))))) (by (repeat (first | exact Ent.refl _ | exact Ent.nil | (apply Ent.pick; focus ((repeat (first | exact Rem.here | apply Rem.there)); done)) | apply Ent.drop)))
    · repeat' (first
    | refine swl_op ?_
    | (refine s1_move ?_; refine sc_r (R_move (by rfl)) (by rfl) ?_)
    | (refine s1_bin ?_; first | refine sc_r (R_lss (by rfl) (by rfl)) (by rfl) ?_ | refine sc_r (R_add64 (by rfl) (by rfl) (by omega)) (by rfl) ?_)
    | refine swl_nil ?_
    | refine sx_next ?_
    | refine sw_seq ?_
    | refine sw_region ?_
    | refine sx_past_exit ?_
    | refine sx_block_normal ?_
    | refine sx_block_here ?_
    | refine sw_cond_neg (by rfl) (by first | assumption | omega) ?_
    | refine sw_exit ?_
    | fail)
      refine sx_back (g + 1, w1) (by simp only; omega) ⟨by simp only; omega, ?_⟩ (subE.cons rfl (subE.cons rfl (subE.cons rfl (subE.cons rfl subE.nil)))) (by (repeat (first | exact Ent.refl _ | exact Ent.nil | (apply Ent.pick; focus ((repeat (first | exact Rem.here | apply Rem.there)); done)) | apply Ent.drop)))
      dsimp only
      rw [hts, hw1, List.take_of_length_le (by omega), hw]
      simp
  · repeat' (first
    | refine swl_op ?_
    | (refine s1_move ?_; refine sc_r (R_move (by rfl)) (by rfl) ?_)
    | (refine s1_assign ?_; refine sc_r (R_assign (by rfl)) (by rfl) ?_)
    | (refine s1_bin ?_; refine sc_r (R_lss (by rfl) (by rfl)) (by rfl) ?_)
    | (refine s1_any ?_; refine sc_r (R_notb (by rfl)) (by rfl) ?_)
    | refine swl_nil ?_
    | refine sx_next ?_
    | refine sw_seq ?_
    | refine sw_region ?_
    | refine sx_past_exit ?_
    | refine sx_block_here ?_
    | refine sw_cond_neg (by rfl) (by first | assumption | omega) ?_
    | refine sw_ret ?_
    | refine sw_exit ?_
    | fail)
    refine sx_ret_of (res1 rfl (ResOne.tmp rfl)) L ⟨?_, rfl⟩ (by (repeat (first | exact Ent.refl _ | exact Ent.nil | (apply Ent.pick; focus ((repeat (first | exact Rem.here | apply Rem.there)); done)) | apply Ent.drop)))
    rw [hw, List.take_of_length_le (by omega)]; rfl

def sumB (s : Int) : List Int := [IntKind.u8.wrap (bShr .u32 s (8 * 0)), IntKind.u8.wrap (bShr .u32 s (8 * 1)), IntKind.u8.wrap (bShr .u32 s (8 * 2)), IntKind.u8.wrap (bShr .u32 s (8 * 3))]
def padF (n : Nat) (l : List Int) : List Int := l ++ List.replicate (n - l.length) 0
def sealF (l : List Int) : List Int := padF 124 l ++ sumB (crcSum [padF 124 l])
def heldF (l : List Int) : Bool := decide (l.length = 128 ∧ l.drop 124 = sumB (crcSum [l.take 124]))
theorem padF_len {n : Nat} {l : List Int} (h : l.length ≤ n) : (padF n l).length = n := by simp [padF]; omega
theorem sealF_len {l : List Int} (h : l.length ≤ 124) : (sealF l).length = 128 := by simp [sealF, padF_len h, sumB]
theorem sumB_get (s : Int) {i : Nat} (h : i < 4) : (sumB s)[i]? = some (IntKind.u8.wrap (bShr .u32 s (8 * (i : Int)))) := by
  rcases (by omega : i = 0 ∨ i = 1 ∨ i = 2 ∨ i = 3) with rfl | rfl | rfl | rfl <;> rfl
theorem held_seal {l : List Int} (h : l.length ≤ 124) : heldF (sealF l) = true := by
  have h1 := padF_len h
  simp only [heldF, sealF_len h, true_and, decide_eq_true_eq]
  unfold sealF
  rw [List.drop_append_of_le_length (by omega), List.take_append_of_le_length (by omega), List.drop_of_length_le (by omega), List.take_of_length_le (by omega)]; rfl

theorem crc_Sum1 (l : List Int) {L : List HP} {p q : Option Addr} {m cp n c : Nat} {els : List (Array Value)} [HalvesC L] (hl : SlC L p 1 m cp els) (he : els = [#[.slice q n c]]) (hb : SlC L q 1 n c (l.map u8c)) :
    Tr Tryd.prog 98 [.slice p m cp].toArray L (fun v L' => v = .int .u32 (crcSum [l]) ∧ L = L') := by
  subst he
  refine crc_Sum [⟨q, n, c, l⟩] hl (fun x hx => ?_)
  obtain rfl := List.mem_singleton.1 hx
  exact hb
theorem crc_Held (l : List Int) {L : List HP} {p : Option Addr} {n c : Nat} [HalvesC L] (hl : SlC L p 1 n c (l.map u8c)) :
    Tr Tryd.prog 76 [.slice p n c].toArray L (fun v L' => v = .bool (heldF l) ∧ L = L') := by
  have hlen : l.length = n := by simpa using hl.len
  refine tr_enter Tryd.func76 rfl Tryd.ntmps76 rfl fun w0 => ?_
  by_cases h128 : n = 128
  · subst h128
    have hle := hl.le
    have ht : SlC L p 1 124 c ((l.take 124).map u8c) := by rw [List.map_take]; exact hl.take _ (by omega)
    obtain ⟨b0, o0, rfl⟩ := hl.ptr (by omega)
    repeat' (first
    | refine swl_op ?_
    | (refine s1_move ?_; refine sc_r (R_move (by rfl)) (by rfl) ?_)
    | (refine s1_assign ?_; refine sc_r (R_assign (by rfl)) (by rfl) ?_)
    | (refine s1_bin ?_; refine sc_r (R_neq (by rfl) (by rfl)) (by rfl) ?_)
    | (refine s1_call ?_; first | (refine sc_c (by rfl) (C_call (by rfl) (by infer_instance) (by rfl) (by rfl) (crc_Sum1 (l.take 124) (by infer_instance) (by rfl) (by infer_instance))) (by rfl) ?_; rintro _ _ ⟨rfl, rfl⟩) | refine sc_r (R_len (by rfl)) (by rfl) ?_)
    | (refine s1_slice ?_; refine sc_r (R_slice_h (by rfl) (by rfl) (by omega)) (by rfl) ?_)
    | (refine s1_any ?_; (refine sc_w (by rfl) (W_buildSliceV (by rfl) (by rfl) (by rfl) (by rfl) (by rfl) (by rfl) (by rfl)) (by rfl) ?_; rintro _ _ ⟨_, rfl, rfl, _, _⟩))
    | refine swl_nil ?_
    | refine sx_next ?_
    | refine sw_seq ?_
    | refine sw_region ?_
    | refine sw_block ?_
    | refine sw_cond_false (by rfl) ?_
    | refine sw_skip ?_
    | fail)
    clear ht
    refine sw_loop (γ := Nat) (fun i => 4 - i) (fun i => [(0, .slice (some ⟨b0, o0, none⟩) 128 c), (3, .int .u32 (crcSum [l.take 124])), (12, .int .i64 i)]) (fun _ => L) (fun i => i ≤ 4 ∧ ∀ j < i, l[124 + j]? = (sumB (crcSum [l.take 124]))[j]?) 0 ⟨by omega, by simp⟩
      (subE.cons rfl (subE.cons rfl (subE.cons rfl subE.nil))) (by (repeat (first | exact Ent.refl _ | exact Ent.nil | (apply Ent.pick; focus ((repeat (first | exact Rem.here | apply Rem.there)); done)) | apply Ent.drop))) ?_
    intro i ⟨hi, hj⟩
    by_cases hlt : i < 4
    · have hl1 : 124 + i < l.length := by omega
      have he1 : (l.map u8c).getD ((124 + (i : Int)).toNat) #[] = #[Value.int .u8 l[124 + i]] := by
        rw [show (124 + (i : Int)).toNat = 124 + i by omega]; exact u8_get hl1
      have hg := sumB_get (crcSum [l.take 124]) hlt
      have hgl : l[124 + i]? = some l[124 + i] := List.getElem?_eq_getElem hl1
      generalize l[124 + i] = z at *
      repeat' (first
    | refine swl_op ?_
    | (refine s1_move ?_; refine sc_r (R_move (by rfl)) (by rfl) ?_)
    | (refine s1_load ?_; refine sc_r (L_load_el1 (by rfl) (by infer_instance) (by omega) (by first | assumption | rfl)) (by rfl) ?_)
    | (refine s1_assign ?_; refine sc_r (R_assign (by rfl)) (by rfl) ?_)
    | (refine s1_bin ?_; first | refine sc_r (R_lss (by rfl) (by rfl)) (by rfl) ?_ | refine sc_r (R_add64 (by rfl) (by rfl) (by omega)) (by rfl) ?_ | refine sc_r (R_neq (by rfl) (by rfl)) (by rfl) ?_ | refine sc_r (R_mul64 (by rfl) (by rfl) (by first | assumption | omega)) (by rfl) ?_ | refine sc_r (R_shr (by rfl) (by rfl) (by omega)) (by rfl) ?_)
    | (refine s1_indexAddr ?_; refine sc_r (R_indexAddr (by rfl) (by rfl) (by omega)) (by rfl) ?_)
    | (refine s1_conv ?_; refine sc_r (R_conv (by rfl)) (by rfl) ?_)
    | refine swl_nil ?_
    | refine sx_next ?_
    | refine sw_seq ?_
    | refine sw_region ?_
    | refine sw_block ?_
    | refine sx_past_ret ?_
    | refine sx_block_normal ?_
    | refine sx_block_ret ?_
    | refine sw_cond_pos (by rfl) (by first | assumption | omega) ?_
    | refine sw_cond_not (by rfl) (fun hp => ?_) (fun hp => ?_)
    | refine sw_ret ?_
    | refine sw_skip ?_
    | refine swh_lt (by rfl) (fun _ _ => wanted_none) ?_
    | refine swh_nil ?_
    | (refine sw_draw [(0, true), (1, true), (2, true), (3, true), (4, true), (5, true), (6, true), (7, true), (8, true), (9, true), (10, true)] follows ?_ ?_ ?_; (focus rfl); (focus (decide +kernel)))
    | fail)
      · refine sx_ret_of (res1 rfl (ResOne.tmp rfl)) L ⟨?_, rfl⟩ (by (repeat (first | exact Ent.refl _ | exact Ent.nil | (apply Ent.pick; focus ((repeat (first | exact Rem.here | apply Rem.there)); done)) | apply Ent.drop)))
        have : heldF l = false := by
          simp only [heldF, decide_eq_false_iff_not]
          rintro ⟨_, h⟩
          rw [← h, List.getElem?_drop, hgl] at hg
          exact hp (Option.some.inj hg)
        rw [this]
      · refine sx_back (i + 1) (by omega) ⟨by omega, fun j hj1 => ?_⟩ (subE.cons rfl (subE.cons rfl (subE.cons rfl subE.nil))) (by (repeat (first | exact Ent.refl _ | exact Ent.nil | (apply Ent.pick; focus ((repeat (first | exact Rem.here | apply Rem.there)); done)) | apply Ent.drop)))
        rcases Nat.lt_or_ge j i with h | h
        · exact hj j h
        · obtain rfl : j = i := by omega
          rw [hg, hgl, hp]
    · repeat' (first
    | refine swl_op ?_
    | (refine s1_assign ?_; refine sc_r (R_assign (by rfl)) (by rfl) ?_)
    | (refine s1_bin ?_; refine sc_r (R_lss (by rfl) (by rfl)) (by rfl) ?_)
    | refine swl_nil ?_
    | refine sx_next ?_
    | refine sw_seq ?_
    | refine sw_region ?_
    | refine sx_past_exit ?_
    | refine sx_block_here ?_
    | refine sw_cond_neg (by rfl) (by first | assumption | omega) ?_
    | refine sw_ret ?_
    | refine sw_exit ?_
    | fail)
      refine sx_ret_of (res1 rfl (ResOne.tmp rfl)) L ⟨?_, rfl⟩ (by (repeat (first | exact Ent.refl _ | exact Ent.nil | (apply Ent.pick; focus ((repeat (first | exact Rem.here | apply Rem.there)); done)) | apply Ent.drop)))
      have : heldF l = true := by
        simp only [heldF, decide_eq_true_eq]
        refine ⟨hlen, List.ext_getElem? fun j => ?_⟩
        rw [List.getElem?_drop]
        rcases Nat.lt_or_ge j 4 with h | h
        · exact hj j (by omega)
        · rw [List.getElem?_eq_none (by omega), List.getElem?_eq_none (by simp [sumB]; omega)]
      rw [this]
  · repeat' (first
    | refine swl_op ?_
    | (refine s1_move ?_; refine sc_r (R_move (by rfl)) (by rfl) ?_)
    | (refine s1_assign ?_; refine sc_r (R_assign (by rfl)) (by rfl) ?_)
    | (refine s1_bin ?_; refine sc_r (R_neq (by rfl) (by rfl)) (by rfl) ?_)
    | (refine s1_call ?_; refine sc_r (R_len (by rfl)) (by rfl) ?_)
    | refine swl_nil ?_
    | refine sx_next ?_
    | refine sw_seq ?_
    | refine sw_region ?_
    | refine sx_past_ret ?_
    | refine sw_cond_nneg (by rfl) (by first | assumption | omega) ?_
    | refine sw_ret ?_
    | fail)
    refine sx_ret_of (res1 rfl (ResOne.tmp rfl)) L ⟨?_, rfl⟩ (by (repeat (first | exact Ent.refl _ | exact Ent.nil | (apply Ent.pick; focus ((repeat (first | exact Rem.here | apply Rem.there)); done)) | apply Ent.drop)))
    simp [heldF]; omega

theorem seal_step {c : List Int} (hc : c.length = 124) (s : Int) {i : Nat} (hi : i < 4) :
    (c ++ ((sumB s).take i ++ List.replicate (4 - i) 0)).set ((124 + (i : Int)).toNat) (IntKind.u8.wrap (bShr .u32 s (8 * (i : Int)))) = c ++ ((sumB s).take (i + 1) ++ List.replicate (4 - (i + 1)) 0) := by
  rw [show (124 + (i : Int)).toNat = c.length + i by omega, List.set_append_right _ _ (by omega), Nat.add_sub_cancel_left]
  rcases (by omega : i = 0 ∨ i = 1 ∨ i = 2 ∨ i = 3) with rfl | rfl | rfl | rfl <;> rfl

theorem crc_Seal (l : List Int) (h124 : l.length ≤ 124) {L : List HP} {b off n c : Nat} [HalvesC L] (hl : SlC L (some ⟨b, off, none⟩) 1 n c (l.map u8c)) :
    Tr Tryd.prog 71 [.slice (some ⟨b, off, none⟩) n c].toArray L (fun v L' => ∃ s, v = .tuple #[s, .int .i64 0] ∧ L' = vec 5 1 ((sealF l).map u8c) s :: L) := by
  have hlen : l.length = n := by simpa using hl.len
  have hpl := padF_len h124
  refine tr_enter Tryd.func71 rfl Tryd.ntmps71 rfl fun w0 => ?_
  repeat' (first
    | refine swl_op ?_
    | (refine s1_move ?_; refine sc_r (R_move (by rfl)) (by rfl) ?_)
    | (refine s1_assign ?_; refine sc_r (R_assign (by rfl)) (by rfl) ?_)
    | (refine s1_bin ?_; refine sc_r (R_gtr (by rfl) (by rfl)) (by rfl) ?_)
    | (refine s1_call ?_; first | (refine sc_w (by rfl) (W_copy1 (by rfl) (by rfl) (by focus ((repeat (first | exact Rem.here | apply Rem.there)); done)) hl (by intro x hx; obtain ⟨z, _, rfl⟩ := List.mem_map.1 hx; rfl) (by intro x hx u hu; obtain ⟨z, _, rfl⟩ := List.mem_map.1 hx; obtain rfl := List.mem_singleton.1 hu; rfl) (by omega)) (by rfl) ?_; rintro _ _ ⟨rfl, rfl⟩) | refine sc_r (R_len (by rfl)) (by rfl) ?_)
    | (refine s1_slice ?_; refine sc_r (R_slice_h (by rfl) (by rfl) (by omega)) (by rfl) ?_)
    | (refine s1_any ?_; first | (refine sc_w (by rfl) (W_buildSliceV (by rfl) (by rfl) (by rfl) (by rfl) (by rfl) (by rfl) (by rfl)) (by rfl) ?_; rintro _ _ ⟨_, rfl, rfl, _, _⟩) | (refine sc_w (by rfl) (W_makeSlice (n' := 128) (c' := 128) (zc := u8c 0) (by rfl) (by rfl) (by rfl) (by rfl) (by rfl) (by omega) (by omega)) (by rfl) ?_; rintro _ _ ⟨g, rfl, hok, rfl⟩))
    | refine swl_nil ?_
    | refine sx_next ?_
    | refine sw_seq ?_
    | refine sw_region ?_
    | refine sw_cond_neg (by rfl) (by first | assumption | omega) ?_
    | refine sw_skip ?_
    | fail)
  have hz : ∀ m : Nat, List.replicate m (u8c 0) = (List.replicate m (0 : Int)).map u8c := fun m => by simp
  have hnorm : List.map u8c l ++ List.drop n (List.replicate 128 (u8c 0)) = List.map u8c (padF 124 l ++ [0, 0, 0, 0]) := by
    rw [hz, ← List.map_drop, ← List.map_append, List.drop_replicate, padF, List.append_assoc]
    rw [show ([0, 0, 0, 0] : List Int) = List.replicate 4 0 from rfl, List.replicate_append_replicate, hlen]
    congr 3; omega
  rw [hnorm]
  have hf1 : Fact' ((List.map u8c (padF 124 l ++ [0, 0, 0, 0])).length = 128) := ⟨by simp [hpl]⟩
  have hsub : ∀ (L : List HP) (h : SlC L (some ⟨g, 0, none⟩) 1 128 128 (List.map u8c (padF 124 l ++ [0, 0, 0, 0]))), SlC L (some ⟨g, 0, none⟩) 1 124 128 ((padF 124 l).map u8c) := fun L h => by
    have := h.take 124 (by omega)
    rwa [← List.map_take, List.take_append_of_le_length (by omega), List.take_of_length_le (by omega)] at this
  repeat' (first
    | refine swl_op ?_
    | (refine s1_move ?_; refine sc_r (R_move (by rfl)) (by rfl) ?_)
    | (refine s1_assign ?_; refine sc_r (R_assign (by rfl)) (by rfl) ?_)
    | (refine s1_call ?_; (refine sc_c (by rfl) (C_call (by rfl) (by infer_instance) (by rfl) (by rfl) (crc_Sum1 (padF 124 l) (by infer_instance) (by rfl) (hsub _ (by infer_instance)))) (by rfl) ?_; rintro _ _ ⟨rfl, rfl⟩))
    | refine swl_nil ?_
    | refine sx_next ?_
    | refine sw_seq ?_
    | refine sw_region ?_
    | refine sw_block ?_
    | fail)
  generalize hsum : crcSum [padF 124 l] = s
  refine sw_loop (γ := Nat) (fun i => 4 - i) (fun i => [(4, .slice (some ⟨g, 0, none⟩) 128 128), (5, .int .u32 s), (18, .int .i64 i)]) (fun i => vec 5 1 ((padF 124 l ++ ((sumB s).take i ++ List.replicate (4 - i) 0)).map u8c) (.slice (some ⟨g, 0, none⟩) 128 128) :: L) (fun i => i ≤ 4) 0 (by omega)
      (subE.cons rfl (subE.cons rfl (subE.cons rfl subE.nil))) (by (repeat (first | exact Ent.refl _ | exact Ent.nil | (apply Ent.pick; focus ((repeat (first | exact Rem.here | apply Rem.there)); done)) | apply Ent.drop))) ?_
  intro i hi
  by_cases hlt : i < 4
  · have hst := seal_step hpl s hlt
    have hli : ((124 + (i : Int)).toNat) < ((padF 124 l ++ ((sumB s).take i ++ List.replicate (4 - i) 0)).map u8c).length := by simp [hpl, sumB]; omega
    repeat' (first
    | refine swl_op ?_
    | (refine s1_move ?_; refine sc_r (R_move (by rfl)) (by rfl) ?_)
    | (refine s1_assign ?_; refine sc_r (R_assign (by rfl)) (by rfl) ?_)
    | (refine s1_bin ?_; first | refine sc_r (R_lss (by rfl) (by rfl)) (by rfl) ?_ | refine sc_r (R_add64 (by rfl) (by rfl) (by omega)) (by rfl) ?_ | refine sc_r (R_mul64 (by rfl) (by rfl) (by first | assumption | omega)) (by rfl) ?_ | refine sc_r (R_shr (by rfl) (by rfl) (by omega)) (by rfl) ?_)
    | (refine s1_indexAddr ?_; refine sc_r (R_indexAddr (by rfl) (by rfl) (by omega)) (by rfl) ?_)
    | (refine s1_store ?_; (refine sc_w (by rfl) (W_store_el1 (by rfl) (by rfl) (by focus ((repeat (first | exact Rem.here | apply Rem.there)); done)) (by rfl) hli) (by rfl) ?_; rintro _ _ ⟨rfl, rfl⟩))
    | (refine s1_conv ?_; refine sc_r (R_conv (by rfl)) (by rfl) ?_)
    | refine swl_nil ?_
    | refine sx_next ?_
    | refine sw_seq ?_
    | refine sw_region ?_
    | refine sw_block ?_
    | refine sx_block_normal ?_
    | refine sw_cond_pos (by rfl) (by first | assumption | omega) ?_
    | refine sw_skip ?_
    | fail)
    refine sx_back (i + 1) (by omega) (by omega) (subE.cons rfl (subE.cons rfl (subE.cons rfl subE.nil))) ?_
    rw [← hst, List.map_set]
    (repeat (first | exact Ent.refl _ | exact Ent.nil | (apply Ent.pick; focus ((repeat (first | exact Rem.here | apply Rem.there)); done)) | apply Ent.drop))
  · obtain rfl : i = 4 := by omega
    repeat' (first
    | refine swl_op ?_
    | (refine s1_move ?_; refine sc_r (R_move (by rfl)) (by rfl) ?_)
    | (refine s1_assign ?_; refine sc_r (R_assign (by rfl)) (by rfl) ?_)
    | (refine s1_bin ?_; refine sc_r (R_lss (by rfl) (by rfl)) (by rfl) ?_)
    | refine swl_nil ?_
    | refine sx_next ?_
    | refine sw_seq ?_
    | refine sw_region ?_
    | refine sx_past_exit ?_
    | refine sx_block_here ?_
    | refine sw_cond_false (by rfl) ?_
    | refine sw_ret ?_
    | refine sw_exit ?_
    | fail)
    refine sx_ret_of (res2 rfl (ResOne.tmp rfl) (ResOne.tmp rfl)) _ ⟨_, rfl, rfl⟩ ?_
    rw [sealF, hsum, show (sumB s).take 4 ++ List.replicate (4 - 4) 0 = sumB s from rfl]
    (repeat (first | exact Ent.refl _ | exact Ent.nil | (apply Ent.pick; focus ((repeat (first | exact Rem.here | apply Rem.there)); done)) | apply Ent.drop))
end Go.Proofs.YtjdnflhejfcgdaaDoor

/-
  Facts of the program for the rows: the listed table, where it stands.
-/
namespace Go.Proofs.YtjdnflhejfcgdaaDoor
open Go Go.SL Go.ChangeShapes Go.WideShapes Go.ChangeAt Go.RowKit Go.Joins

def halvesLaid : List (String × DataW Unit) := [("haymow/crc.halves", Rows.laid_haymow_crc_halves)]
theorem own_knob : ownKnob Tryd.prog.godebug = none := by kernel_rfl
theorem laid_out : laidOutB Tryd.prog = true := by kernel_rfl
theorem gHalves : Tryd.prog.globalNamed "haymow/crc.halves" = some 0 := by kernel_rfl
theorem tHalves : (Tryd.prog.globals[0]?).map (·.type) = some 165 := by kernel_rfl

set_option maxRecDepth 100000 in
/-- The door's own heap meets the condition. -/
theorem door_met (os : Os) (args : Array Value) : laidMetH Tryd.prog halvesLaid ((World.doorLaid Tryd.prog 400 os).forCall (fun _ _ => 0) ⟨#[], args, []⟩).memory :=
  laidMetH_of_parts3 (fuel := 20) (laidMet_of_run' 20 (by kernel_rfl) (by kernel_rfl)) (by kernel_rfl) (by kernel_rfl)

set_option maxRecDepth 100000 in
theorem halves_of_laid {W : World} (h : laidMetH Tryd.prog halvesLaid W) : HalvesC [whole W] := by
  rw [MakeChecks.laidMetH_plain _ _ _ (by kernel_rfl)] at h
  obtain ⟨ps, ⟨g0, t0, cs0, f0, p0, q0, hg0, ht0, hv0, hd0, _, _⟩, _, _⟩ := h
  obtain rfl := Option.some.inj (gHalves.symm.trans hg0)
  obtain rfl := Option.some.inj (tHalves.symm.trans ht0)
  have hv1 := hv0
  simp only [World.var?, gHalves, Option.bind_some] at hv1
  obtain ⟨xs, m, rfl, hx, hlen, hn, hel⟩ := DataW.trod_array Tryd.underlying165 hd0
  have cA : Tryd.prog.cellsOf 165 = 16 := by kernel_rfl
  have c1 : Tryd.prog.cellsOf 70 = 1 := by kernel_rfl
  rw [cA] at hlen
  simp only [c1, Nat.mul_one] at hel
  have hd : xs.map (·.1) = halvesL.map fun z => (.lit (.int .u32 z) : DataW Unit) := by
    have h1 : Rows.laid_haymow_crc_halves = .agg (xs.map (·.1)) := congrArg Prod.fst hx
    unfold Rows.laid_haymow_crc_halves at h1
    have h2 := (DataW.agg.inj h1).symm
    rw [h2]; rfl
  have hcs : cs0 = halvesC := by
    apply Array.ext_getElem?
    intro i
    by_cases hi : i < 16
    · have h1 := hel i hi
      have hxl : i < xs.length := by omega
      rw [List.getElem?_eq_getElem hxl] at h1
      obtain ⟨n, e1, e2, _⟩ := DataW.trod_int Tryd.underlying70 h1
      have h3 : (xs.map (·.1))[i]? = some (DataW.lit (.int .u32 n)) := by
        rw [List.getElem?_map, List.getElem?_eq_getElem hxl, e2]; rfl
      rw [hd, List.getElem?_map] at h3
      have h4 : cs0.toList[i]? = some (.int .u32 n) := by
        have := congrArg List.head? e1
        simpa [List.head?_take, List.head?_drop] using this
      rw [← Array.getElem?_toList, h4]
      have hhl : halvesL.length = 16 := rfl
      rw [List.getElem?_eq_getElem (by omega), Option.map_some, Option.some.injEq, DataW.lit.injEq, Lit.int.injEq] at h3
      simp only [halvesC, List.getElem?_toArray, List.getElem?_map]
      rw [List.getElem?_eq_getElem (by omega), Option.map_some, h3.2]
    · rw [Array.getElem?_eq_none (by have : cs0.toList.length = cs0.size := Array.length_toList; omega), Array.getElem?_eq_none (by simp [halvesC, halvesL]; omega)]
  subst hcs
  split at hv1
  · rename_i c T fr hb
    cases hv1
    exact ⟨T, fr, Reads.whole hb⟩
  · cases hv1

/-- a slice of ints that an argument holds -/
theorem open_ints {H : Type} {enc : TypeId × Value → H} {P : Program} {w : World} {base : Nat} {spare : Nat → Bool} {held : Bool} {k : IntKind} {t e : TypeId} {fuel : Nat} {p : Option Addr} {n cap : Nat} {x : DataW H × List MemPlace}
    (hs : P.underlying t = some (.slice e)) (he : P.underlying e = some (.int k)) (hc : P.cellsOf e = 1) (h : DataW.trod enc P w base spare held fuel t [.slice p n cap] = some x)
    (hb : ∀ elems sp, x.1 = .slice elems sp → elems.length ≤ 140737488355328) :
    ∃ l : List Int, SlC [whole w] p 1 n cap (l.map fun z => #[.int k z]) ∧ (∀ z ∈ l, (Lit.int k z).wf = true) ∧ n = l.length :=
  open_slc (fun z => #[.int k z]) (fun z => (Lit.int k z).wf = true) (fun _ => rfl) (k := 1) (by decide) hs hc (fun cs m y h => by
    obtain ⟨z, e, _, w⟩ := DataW.trod_int he h
    exact ⟨z, by simp [e], w⟩) h hb
theorem wf_u8 {n : Int} (h : (Lit.int .u8 n).wf = true) : 0 ≤ n ∧ n ≤ 255 := by
  simpa [Lit.wf, IntKind.min, IntKind.max, IntKind.signed, IntKind.bits] using h
theorem wf_u16 {n : Int} (h : (Lit.int .u16 n).wf = true) : 0 ≤ n ∧ n ≤ 65535 := by
  simpa [Lit.wf, IntKind.min, IntKind.max, IntKind.signed, IntKind.bits] using h
theorem wf_i64 {n : Int} (h : (Lit.int .i64 n).wf = true) : -9223372036854775808 ≤ n ∧ n ≤ 9223372036854775807 := by
  simpa [Lit.wf, IntKind.min, IntKind.max, IntKind.signed, IntKind.bits] using h
end Go.Proofs.YtjdnflhejfcgdaaDoor

/-
  Devices: what they are, and how one stands in memory.
-/
namespace Go.Proofs.YtjdnflhejfcgdaaDoor
open Go Go.SL Go.Proofs

structure DevS where
  blocks : List (List Int)
  pend : List (Nat × List Int)
  faults : Int → Int
  budget : Int
  power : Bool
  mounted : Bool

structure DevS.OK (s : DevS) : Prop where
  b128 : ∀ l ∈ s.blocks, l.length = 128
  p128 : ∀ x ∈ s.pend, x.2.length = 128 ∧ x.1 < s.blocks.length
  bn : s.blocks.length ≤ 8192
  bu : s.budget ≤ 9223372036854775807

def wcell (x : Nat × List Int) : Array Value := (Value.int .i64 x.1 :: x.2.map (Value.int .u8)).toArray
theorem wcell_size (x : Nat × List Int) : (wcell x).size = x.2.length + 1 := by simp [wcell]

/-- the last one that waits for a block -/
def lastAt (p : List (Nat × List Int)) (z : Int) : Option Nat := (p.foldl (fun (acc : Nat × Option Nat) x => (acc.1 + 1, if (x.1 : Int) = z then some acc.1 else acc.2)) (0, none)).2
theorem lastAt_fst (p : List (Nat × List Int)) (z : Int) (acc : Nat × Option Nat) : (p.foldl (fun (acc : Nat × Option Nat) x => (acc.1 + 1, if (x.1 : Int) = z then some acc.1 else acc.2)) acc).1 = acc.1 + p.length := by
  induction p generalizing acc with
  | nil => rfl
  | cons x r ih => simp only [List.foldl_cons, ih, List.length_cons]; omega
theorem lastAt_snoc (p : List (Nat × List Int)) (x : Nat × List Int) (z : Int) : lastAt (p ++ [x]) z = if (x.1 : Int) = z then some p.length else lastAt p z := by
  unfold lastAt
  rw [List.foldl_append]
  simp only [List.foldl_cons, List.foldl_nil, lastAt_fst, Nat.zero_add]
theorem lastAt_some {p : List (Nat × List Int)} {z : Int} {k : Nat} (h : lastAt p z = some k) : ∃ x, p[k]? = some x ∧ (x.1 : Int) = z := by
  suffices H : ∀ q : List (Nat × List Int), ∀ k, lastAt q.reverse z = some k → ∃ x, q.reverse[k]? = some x ∧ (x.1 : Int) = z by
    have := H p.reverse k
    rw [List.reverse_reverse] at this
    exact this h
  intro q
  induction q with
  | nil => intro k h; simp [lastAt] at h
  | cons x r ih =>
    intro k h
    rw [List.reverse_cons] at h ⊢
    rw [lastAt_snoc] at h
    split at h
    · obtain rfl := Option.some.inj h
      exact ⟨x, by simp, ‹_›⟩
    · obtain ⟨y, hy, h2⟩ := ih k h
      have hk : k < r.reverse.length := (List.getElem?_eq_some_iff.1 hy).1
      exact ⟨y, by rw [List.getElem?_append_left hk]; exact hy, h2⟩

def newestF (p : List (Nat × List Int)) : Value → Option Value := fun k => match k with | .int .i64 z => (lastAt p z).map fun j : Nat => .int .i64 j | _ => none
def faultF (f : Int → Int) : Value → Option Value := fun k => match k with | .int .i64 z => if f z = 0 then none else some (.int .i64 (f z)) | _ => none

/-- a device at a -/
def devP (a : Nat) (s : DevS) : HP := ex fun z : Value × Value × Nat × Nat => st [pt a (.cells #[z.1, z.2.1, .map (some z.2.2.1), .map (some z.2.2.2), .int .i64 s.budget, .bool s.power, .bool s.mounted] 100),
  vec 147 128 (s.blocks.map bcell) z.1, vec 149 129 (s.pend.map wcell) z.2.1, mp (.int .i64) z.2.2.1 (newestF s.pend), mp (.int .i64) z.2.2.2 (faultF s.faults), fact s.OK]
attribute [irreducible] devP

theorem own_st {A L : List HP} {h : Hp} (H : Own (st A :: L) h) : Own (A ++ L) h := Ent.own Ent.open_st H

theorem devP_open {a : Nat} {s : DevS} {L : List HP} {h : Hp} (H : Own (devP a s :: L) h) : ∃ pb cb pp cp rn rf, SlOK pb s.blocks.length cb ∧ SlOK pp s.pend.length cp ∧ s.OK ∧
    Own (pt a (.cells #[.slice pb s.blocks.length cb, .slice pp s.pend.length cp, .map (some rn), .map (some rf), .int .i64 s.budget, .bool s.power, .bool s.mounted] 100) :: vec 147 128 (s.blocks.map bcell) (.slice pb s.blocks.length cb) ::
      vec 149 129 (s.pend.map wcell) (.slice pp s.pend.length cp) :: mp (.int .i64) rn (newestF s.pend) :: mp (.int .i64) rf (faultF s.faults) :: L) h := by
  unfold devP at H
  obtain ⟨⟨sb, sp, rn, rf⟩, H⟩ := own_ex H
  replace H := own_st H
  simp only [List.cons_append, List.nil_append] at H
  obtain ⟨pb, cb, rfl, h1⟩ := vec_fact (Ent.own (show Ent _ [vec 147 128 (s.blocks.map bcell) sb] from by (repeat (first | exact Ent.refl _ | exact Ent.nil | (apply Ent.pick; focus ((repeat (first | exact Rem.here | apply Rem.there)); done)) | apply Ent.drop))) H)
  obtain ⟨pp, cp, rfl, h2⟩ := vec_fact (Ent.own (show Ent _ [vec 149 129 (s.pend.map wcell) sp] from by (repeat (first | exact Ent.refl _ | exact Ent.nil | (apply Ent.pick; focus ((repeat (first | exact Rem.here | apply Rem.there)); done)) | apply Ent.drop))) H)
  have hOK : s.OK := own_fact (Ent.own (show Ent _ [fact s.OK] from by (repeat (first | exact Ent.refl _ | exact Ent.nil | (apply Ent.pick; focus ((repeat (first | exact Rem.here | apply Rem.there)); done)) | apply Ent.drop))) H)
  simp only [List.length_map] at H h1 h2
  exact ⟨pb, cb, pp, cp, rn, rf, h1, h2, hOK, Ent.own (by (repeat (first | exact Ent.refl _ | exact Ent.nil | (apply Ent.pick; focus ((repeat (first | exact Rem.here | apply Rem.there)); done)) | apply Ent.drop))) H⟩

theorem dev_close {a : Nat} {s : DevS} {L : List HP} (hOK : s.OK) {sb sp : Value} {rn rf : Nat} :
    Ent (pt a (.cells #[sb, sp, .map (some rn), .map (some rf), .int .i64 s.budget, .bool s.power, .bool s.mounted] 100) :: vec 147 128 (s.blocks.map bcell) sb ::
      vec 149 129 (s.pend.map wcell) sp :: mp (.int .i64) rn (newestF s.pend) :: mp (.int .i64) rf (faultF s.faults) :: L) (devP a s :: L) := by
  refine (Ent.fact_intro hOK).trans ?_
  unfold devP
  refine Ent.trans ?_ (Ent.ex_intro (sb, sp, rn, rf))
  refine Ent.trans ?_ Ent.shut_st
  simp only [List.cons_append, List.nil_append]
  (repeat (first | exact Ent.refl _ | exact Ent.nil | (apply Ent.pick; focus ((repeat (first | exact Rem.here | apply Rem.there)); done)) | apply Ent.drop))

section
variable {P : Program} {w0 : World} {nt : Cx} {f : FuncId} {args : Array Value} {L : List HP} {R : Value → List HP → Prop} {env : Env} {Q : Exit → Act → World → Prop}
theorem Tr.open_dev {a : Nat} {s : DevS} (h : ∀ pb cb pp cp rn rf, SlOK pb s.blocks.length cb → SlOK pp s.pend.length cp → s.OK →
    Tr P f args (pt a (.cells #[.slice pb s.blocks.length cb, .slice pp s.pend.length cp, .map (some rn), .map (some rf), .int .i64 s.budget, .bool s.power, .bool s.mounted] 100) :: vec 147 128 (s.blocks.map bcell) (.slice pb s.blocks.length cb) ::
      vec 149 129 (s.pend.map wcell) (.slice pp s.pend.length cp) :: mp (.int .i64) rn (newestF s.pend) :: mp (.int .i64) rf (faultF s.faults) :: L) R) : Tr P f args (devP a s :: L) R := .mk fun w0 w hs => by
  obtain ⟨pb, cb, pp, cp, rn, rf, h1, h2, h3, H⟩ := devP_open hs.own
  exact (h pb cb pp cp rn rf h1 h2 h3).h w0 w ⟨hs.os, hs.tape, hs.output, hs.size, hs.drawn, H⟩
end

theorem dev_there (a : Nat) (i : Int) {n : Nat} {pb : Option Addr} {cb : Nat} {x1 x2 x3 x4 x5 x6 : Value} {T : TypeId} {L : List HP} (hr : ReadC L a (.cells #[.slice pb n cb, x1, x2, x3, x4, x5, x6] T)) :
    Tr Tryd.prog 100 [.pointer (some ⟨a, 0, none⟩), .int .i64 i].toArray L (fun v L' => v = .bool (decide (0 ≤ i ∧ i < n)) ∧ L = L') := by
  refine tr_enter Tryd.func100 rfl Tryd.ntmps100 rfl fun w0 => ?_
  repeat' (first
    | refine swl_op ?_
    | (refine s1_move ?_; refine sc_r (R_move (by rfl)) (by rfl) ?_)
    | (refine s1_load ?_; refine sc_r (L_load' (by rfl) (by infer_instance) (by rfl)) (by rfl) ?_)
    | (refine s1_fieldAddr ?_; refine sc_r (R_fieldAddr (by rfl)) (by rfl) ?_)
    | (refine s1_assign ?_; refine sc_r (R_assign (by rfl)) (by rfl) ?_)
    | (refine s1_pick ?_; first | refine sc_r (R_pick_t (by rfl) (by rfl)) (by rfl) ?_ | refine sc_r (R_pick_f (by rfl) (by rfl)) (by rfl) ?_)
    | (refine s1_bin ?_; first | refine sc_r (R_lss (by rfl) (by rfl)) (by rfl) ?_ | refine sc_r (R_geq (by rfl) (by rfl)) (by rfl) ?_)
    | (refine s1_call ?_; refine sc_r (R_len (by rfl)) (by rfl) ?_)
    | (refine s1_any ?_; refine sc_r (R_nilCheck (by rfl)) (by rfl) ?_)
    | refine swl_nil ?_
    | refine sx_next ?_
    | refine sw_seq ?_
    | refine sw_region ?_
    | refine swl_g_on (by rfl) (by rfl) ?_
    | refine swl_g_off (by rfl) (by rfl) (by rfl) (by rfl) ?_
    | refine swl_g_dec (by rfl) (by rfl) (fun hp => ?_) (fun hp => ?_)
    | refine sw_ret ?_
    | fail)
  all_goals refine sx_ret_of (res1 rfl (ResOne.tmp rfl)) L ⟨?_, rfl⟩ (by (repeat (first | exact Ent.refl _ | exact Ent.nil | (apply Ent.pick; focus ((repeat (first | exact Rem.here | apply Rem.there)); done)) | apply Ent.drop)))
  all_goals (congr 1; simp; omega)
theorem dev_there' (a : Nat) (i : Int) (t : Bool) {n : Nat} {pb : Option Addr} {cb : Nat} {x1 x2 x3 x4 x5 x6 : Value} {T : TypeId} {L : List HP} (hr : ReadC L a (.cells #[.slice pb n cb, x1, x2, x3, x4, x5, x6] T)) (h : decide (0 ≤ i ∧ i < (n : Int)) = t) :
    Tr Tryd.prog 100 [.pointer (some ⟨a, 0, none⟩), .int .i64 i].toArray L (fun v L' => v = .bool t ∧ L = L') := h ▸ dev_there a i hr

def spendE (bu : Int) (po mo : Bool) : Int := if !(po && decide (bu ≠ 0)) then 10 else if mo then 0 else 9
def spendN (bu : Int) (po : Bool) : Int := if !(po && decide (bu ≠ 0)) then bu else if 0 < bu then bu - 1 else bu
def spendP (bu : Int) (po : Bool) : Bool := po && decide (bu ≠ 0)
theorem dev_spend (a : Nat) {bu : Int} {po mo : Bool} {x0 x1 x2 x3 : Value} {T : TypeId} {L : List HP} (hbu : bu ≤ 9223372036854775807) :
    Tr Tryd.prog 86 [.pointer (some ⟨a, 0, none⟩)].toArray (pt a (.cells #[x0, x1, x2, x3, .int .i64 bu, .bool po, .bool mo] T) :: L)
      (fun v L' => v = .int .i64 (spendE bu po mo) ∧ L' = pt a (.cells #[x0, x1, x2, x3, .int .i64 (spendN bu po), .bool (spendP bu po), .bool mo] T) :: L) := by
  refine tr_enter Tryd.func86 rfl Tryd.ntmps86 rfl fun w0 => ?_
  unfold spendE spendN spendP
  by_cases h0 : bu = 0
  · subst h0
    repeat' (first
    | refine swl_op ?_
    | (refine s1_move ?_; refine sc_r (R_move (by rfl)) (by rfl) ?_)
    | (refine s1_load ?_; refine sc_r (L_load' (by rfl) (by infer_instance) (by rfl)) (by rfl) ?_)
    | (refine s1_fieldAddr ?_; refine sc_r (R_fieldAddr (by rfl)) (by rfl) ?_)
    | (refine s1_assign ?_; refine sc_r (R_assign (by rfl)) (by rfl) ?_)
    | (refine s1_bin ?_; refine sc_r (R_eql (by rfl) (by rfl)) (by rfl) ?_)
    | (refine s1_store ?_; (refine sc_w (by rfl) (W_storeL (by rfl) (by rfl) (by infer_instance) (by rfl) (by rfl) (by rfl)) (by rfl) ?_; rintro _ _ ⟨rfl, rfl⟩))
    | (refine s1_any ?_; first | refine sc_r (R_not (by rfl)) (by rfl) ?_ | refine sc_r (R_nilCheck (by rfl)) (by rfl) ?_)
    | refine swl_nil ?_
    | refine sx_next ?_
    | refine sw_seq ?_
    | refine sw_region ?_
    | refine sx_past_ret ?_
    | refine sw_cond_true (by rfl) ?_
    | refine sw_ret ?_
    | fail)
    all_goals refine sx_ret_of (res1 rfl (ResOne.tmp rfl)) _ ⟨?_, rfl⟩ ?_
    all_goals first | simp; done | (simp; (repeat (first | exact Ent.refl _ | exact Ent.nil | (apply Ent.pick; focus ((repeat (first | exact Rem.here | apply Rem.there)); done)) | apply Ent.drop)))
  · cases po
    · repeat' (first
    | refine swl_op ?_
    | (refine s1_move ?_; refine sc_r (R_move (by rfl)) (by rfl) ?_)
    | (refine s1_load ?_; refine sc_r (L_load' (by rfl) (by infer_instance) (by rfl)) (by rfl) ?_)
    | (refine s1_fieldAddr ?_; refine sc_r (R_fieldAddr (by rfl)) (by rfl) ?_)
    | (refine s1_assign ?_; refine sc_r (R_assign (by rfl)) (by rfl) ?_)
    | (refine s1_bin ?_; refine sc_r (R_eql (by rfl) (by rfl)) (by rfl) ?_)
    | (refine s1_any ?_; first | refine sc_r (R_not (by rfl)) (by rfl) ?_ | refine sc_r (R_nilCheck (by rfl)) (by rfl) ?_)
    | refine swl_nil ?_
    | refine sx_next ?_
    | refine sw_seq ?_
    | refine sw_region ?_
    | refine sx_past_ret ?_
    | refine sw_cond_true (by rfl) ?_
    | refine sw_cond_neg (by rfl) (by first | assumption | omega) ?_
    | refine sw_ret ?_
    | refine sw_skip ?_
    | fail)
      all_goals refine sx_ret_of (res1 rfl (ResOne.tmp rfl)) _ ⟨?_, rfl⟩ ?_
      all_goals first | simp; done | (simp; (repeat (first | exact Ent.refl _ | exact Ent.nil | (apply Ent.pick; focus ((repeat (first | exact Rem.here | apply Rem.there)); done)) | apply Ent.drop)))
    · have h00 : decide (bu ≠ 0) = true := by simpa using h0
      rw [h00]
      cases mo
      all_goals
        repeat' (first
    | refine swl_op ?_
    | (refine s1_move ?_; refine sc_r (R_move (by rfl)) (by rfl) ?_)
    | (refine s1_load ?_; refine sc_r (L_load' (by rfl) (by infer_instance) (by rfl)) (by rfl) ?_)
    | (refine s1_fieldAddr ?_; refine sc_r (R_fieldAddr (by rfl)) (by rfl) ?_)
    | (refine s1_assign ?_; refine sc_r (R_assign (by rfl)) (by rfl) ?_)
    | (refine s1_bin ?_; first | refine sc_r (R_gtr (by rfl) (by rfl)) (by rfl) ?_ | refine sc_r (R_eql (by rfl) (by rfl)) (by rfl) ?_ | refine sc_r (R_sub64 (by rfl) (by rfl) (by omega)) (by rfl) ?_)
    | (refine s1_store ?_; (refine sc_w (by rfl) (W_storeL (by rfl) (by rfl) (by infer_instance) (by rfl) (by rfl) (by rfl)) (by rfl) ?_; rintro _ _ ⟨rfl, rfl⟩))
    | (refine s1_any ?_; first | refine sc_r (R_not (by rfl)) (by rfl) ?_ | refine sc_r (R_nilCheck (by rfl)) (by rfl) ?_)
    | refine swl_nil ?_
    | refine sx_next ?_
    | refine sw_seq ?_
    | refine sw_region ?_
    | refine sx_past_ret ?_
    | refine sw_cond_true (by rfl) ?_
    | refine sw_cond_false (by rfl) ?_
    | refine sw_cond_neg (by rfl) (by first | assumption | omega) ?_
    | refine sw_cond_dec (by rfl) (fun hp => ?_) (fun hp => ?_)
    | refine sw_ret ?_
    | refine sw_skip ?_
    | fail)
        all_goals refine sx_ret_of (res1 rfl (ResOne.tmp rfl)) _ ⟨?_, rfl⟩ ?_
        all_goals first | rfl | (simp only [Bool.and_self, Bool.not_true, Bool.false_eq_true, if_false]; (first | rw [if_pos hp] | rw [if_neg hp]); (repeat (first | exact Ent.refl _ | exact Ent.nil | (apply Ent.pick; focus ((repeat (first | exact Rem.here | apply Rem.there)); done)) | apply Ent.drop)))
end Go.Proofs.YtjdnflhejfcgdaaDoor

/-
  Devices, walked: what waits is executed, forgotten.
-/
namespace Go.Proofs.YtjdnflhejfcgdaaDoor
open Go Go.SL Go.Proofs

theorem dev_forget (a rn : Nat) {x0 x1 x3 x4 x5 x6 : Value} {T : TypeId} {d : TypeDesc} {f : Value → Option Value} {L : List HP} :
    Tr Tryd.prog 45 [.pointer (some ⟨a, 0, none⟩)].toArray (pt a (.cells #[x0, x1, .map (some rn), x3, x4, x5, x6] T) :: mp d rn f :: L)
      (fun v L' => v = .tuple #[] ∧ L' = pt a (.cells #[x0, .slice none 0 0, .map (some rn), x3, x4, x5, x6] T) :: mp d rn (fun _ => none) :: L) := by
  refine tr_enter Tryd.func45 rfl Tryd.ntmps45 rfl fun w0 => ?_
  repeat' (first
    | refine swl_op ?_
    | (refine s1_move ?_; refine sc_r (R_move (by rfl)) (by rfl) ?_)
    | (refine s1_load ?_; refine sc_r (L_load' (by rfl) (by infer_instance) (by rfl)) (by rfl) ?_)
    | (refine s1_fieldAddr ?_; refine sc_r (R_fieldAddr (by rfl)) (by rfl) ?_)
    | (refine s1_call ?_; (refine sc_w (by rfl) (W_clearM (by rfl) (by focus ((repeat (first | exact Rem.here | apply Rem.there)); done))) (by rfl) ?_; rintro _ _ ⟨rfl, rfl⟩))
    | (refine s1_store ?_; (refine sc_w (by rfl) (W_storeL (by rfl) (by rfl) (by infer_instance) (by rfl) (by rfl) (by rfl)) (by rfl) ?_; rintro _ _ ⟨rfl, rfl⟩))
    | (refine s1_any ?_; refine sc_r (R_nilCheck (by rfl)) (by rfl) ?_)
    | refine swl_nil ?_
    | refine sx_next ?_
    | refine sw_seq ?_
    | refine sw_region ?_
    | fail)
  exact sx_end_of (res0 rfl) _ ⟨rfl, rfl⟩ (by (repeat (first | exact Ent.refl _ | exact Ent.nil | (apply Ent.pick; focus ((repeat (first | exact Rem.here | apply Rem.there)); done)) | apply Ent.drop)))

/-- one of them is executed -/
def cut128 (f : Int) : Nat := (min (max f 0) 128).toNat
def wr1 (bs : List (List Int)) (x : Nat × List Int) (f : Int) : List (List Int) := bs.set x.1 (x.2.take (cut128 f) ++ (bs.getD x.1 []).drop (cut128 f))
def execB (far : Nat → Int) (p : List (Nat × List Int)) (bs : List (List Int)) : List (List Int) := p.zipIdx.foldl (fun bs x => wr1 bs x.1 (far x.2)) bs
theorem execB_snoc (far : Nat → Int) (p : List (Nat × List Int)) (x : Nat × List Int) (bs : List (List Int)) : execB far (p ++ [x]) bs = wr1 (execB far p bs) x (far p.length) := by
  simp [execB, List.zipIdx_append]
theorem wr1_len (bs : List (List Int)) (x : Nat × List Int) (f : Int) : (wr1 bs x f).length = bs.length := by simp [wr1]
theorem execB_len (far : Nat → Int) (p : List (Nat × List Int)) (bs : List (List Int)) : (execB far p bs).length = bs.length := by
  unfold execB
  generalize p.zipIdx = q
  induction q generalizing bs with
  | nil => rfl
  | cons x r ih => rw [List.foldl_cons, ih, wr1_len]
theorem wr1_128 {bs : List (List Int)} (h : ∀ l ∈ bs, l.length = 128) {x : Nat × List Int} (hx : x.2.length = 128 ∧ x.1 < bs.length) (f : Int) : ∀ l ∈ wr1 bs x f, l.length = 128 := by
  intro l hl
  rcases List.mem_or_eq_of_mem_set hl with hl | rfl
  · exact h l hl
  · have h1 : bs.getD x.1 [] = bs[x.1] := by simp [List.getD, hx.2]
    have h2 := h bs[x.1] (List.getElem_mem hx.2)
    have h3 : cut128 f ≤ 128 := by unfold cut128; omega
    rw [List.length_append, List.length_take, List.length_drop, h1, h2, hx.1]; omega
theorem execB_128 (far : Nat → Int) {p : List (Nat × List Int)} {bs : List (List Int)} (h : ∀ l ∈ bs, l.length = 128) (hp : ∀ x ∈ p, x.2.length = 128 ∧ x.1 < bs.length) : ∀ g, g ≤ p.length → ∀ l ∈ execB far (p.take g) bs, l.length = 128 := by
  intro g
  induction g with
  | zero => intro _; simpa [execB] using h
  | succ g ih =>
    intro hg
    have hlt : g < p.length := by omega
    rw [List.take_succ_eq_append_getElem hlt, execB_snoc]
    refine wr1_128 (ih (by omega)) ?_ _
    have := hp p[g] (List.getElem_mem hlt)
    rw [execB_len]; exact this
theorem wr1_cells (bs : List (List Int)) (x : Nat × List Int) (f : Int) (hx : x.1 < bs.length) :
    (bs.map bcell).set x.1 ((((wcell x).toList.drop (0 + 1)).take (min (max f 0) 128).toNat ++ ((bs.map bcell).getD x.1 #[]).toList.drop (min (max f 0) 128).toNat).toArray) = (wr1 bs x f).map bcell := by
  unfold wr1
  rw [List.map_set]
  congr 1
  unfold cut128
  generalize (min (max f 0) 128).toNat = n
  simp [bcell, wcell, List.getD, hx, List.map_take, List.map_drop]

set_option maxHeartbeats 2000000 in
theorem dev_execute (a : Nat) {fid : FuncId} {fi ca : Array Value} (hc : CallC Tryd.prog fid) (far : Nat → Int) {L : List HP} (hfar : ∀ (k : Nat) (L' : List HP), Ent L' L → Tr Tryd.prog fid (fi.toList ++ [Value.int .i64 (k : Int)] ++ ca.toList).toArray L' (fun v L'' => v = .int .i64 (far k) ∧ L' = L''))
    {bs : List (List Int)} {p : List (Nat × List Int)} (h128 : ∀ l ∈ bs, l.length = 128) (hp : ∀ x ∈ p, x.2.length = 128 ∧ x.1 < bs.length) {pb pp : Option Addr} {cb cp rn : Nat} {x3 x4 x5 x6 : Value} {T : TypeId} {d : TypeDesc} {f : Value → Option Value} [hpb : SlOK pb bs.length cb] [hpp : SlOK pp p.length cp] :
    Tr Tryd.prog 43 [.pointer (some ⟨a, 0, none⟩), .func (.func fid) fi ca].toArray
      (pt a (.cells #[.slice pb bs.length cb, .slice pp p.length cp, .map (some rn), x3, x4, x5, x6] T) :: vec 147 128 (bs.map bcell) (.slice pb bs.length cb) :: vec 149 129 (p.map wcell) (.slice pp p.length cp) :: mp d rn f :: L)
      (fun v L' => v = .tuple #[] ∧ L' = pt a (.cells #[.slice pb bs.length cb, .slice none 0 0, .map (some rn), x3, x4, x5, x6] T) :: vec 147 128 ((execB far p bs).map bcell) (.slice pb bs.length cb) :: mp d rn (fun _ => none) :: L) := by
  refine tr_enter Tryd.func43 rfl Tryd.ntmps43 rfl fun w0 => ?_
  have hbd := hpp.bd
  have hf2 : Fact' ((p.map wcell).length = p.length) := ⟨by simp⟩
  repeat' (first
    | refine swl_op ?_
    | (refine s1_move ?_; refine sc_r (R_move (by rfl)) (by rfl) ?_)
    | (refine s1_load ?_; refine sc_r (L_load' (by rfl) (by infer_instance) (by rfl)) (by rfl) ?_)
    | (refine s1_fieldAddr ?_; refine sc_r (R_fieldAddr (by rfl)) (by rfl) ?_)
    | (refine s1_call ?_; refine sc_r (R_len (by rfl)) (by rfl) ?_)
    | (refine s1_any ?_; refine sc_r (R_nilCheck (by rfl)) (by rfl) ?_)
    | refine swl_nil ?_
    | refine sx_next ?_
    | refine sw_seq ?_
    | refine sw_region ?_
    | refine sw_block ?_
    | fail)
  refine sw_loop (γ := Nat) (fun g => p.length - g) (fun g => [(0, .pointer (some ⟨a, 0, none⟩)), (1, .func (.func fid) fi ca), (10, .slice pp p.length cp), (11, .int .i64 p.length), (12, .int .i64 g)])
    (fun g => pt a (.cells #[.slice pb bs.length cb, .slice pp p.length cp, .map (some rn), x3, x4, x5, x6] T) :: vec 147 128 ((execB far (p.take g) bs).map bcell) (.slice pb bs.length cb) :: vec 149 129 (p.map wcell) (.slice pp p.length cp) :: mp d rn f :: L) (fun g => g ≤ p.length) 0 (by omega)
    (subE.cons rfl (subE.cons rfl (subE.cons rfl (subE.cons rfl (subE.cons rfl subE.nil))))) (by (repeat (first | exact Ent.refl _ | exact Ent.nil | (apply Ent.pick; focus ((repeat (first | exact Rem.here | apply Rem.there)); done)) | apply Ent.drop))) ?_
  intro g hg
  have hlen := execB_len far (p.take g) bs
  by_cases hlt : g < p.length
  · obtain ⟨b1, o1, rfl⟩ := hpp.ptr (by omega)
    have he1 : (p.map wcell).getD g #[] = wcell p[g] := by simp [hlt]
    have hx := hp p[g] (List.getElem_mem hlt)
    have hts := List.take_succ_eq_append_getElem hlt
    obtain ⟨b2, o2, rfl⟩ := hpb.ptr (by omega)
    have hsn := execB_snoc far (p.take g) p[g] bs
    rw [← hts, List.length_take, show min g p.length = g by omega] at hsn
    generalize p[g] = x at *
    generalize execB far (p.take g) bs = bs1 at *
    have hwc := wr1_cells bs1 x (far g) (by omega)
    rw [← hsn] at hwc
    have hf1 : Fact' ((bs1.map bcell).length = bs.length) := ⟨by simp [hlen]⟩
    have hws := wcell_size x
    repeat' (first
    | refine swl_op ?_
    | (refine s1_move ?_; refine sc_r (R_move (by rfl)) (by rfl) ?_)
    | (refine s1_load ?_; refine sc_r (L_load_el (by rfl) (by infer_instance) (by infer_instance) (by omega) (by first | assumption | rfl)) (by rfl) ?_)
    | (refine s1_assign ?_; refine sc_r (R_assign (by rfl)) (by rfl) ?_)
    | (refine s1_bin ?_; refine sc_r (R_lss (by rfl) (by rfl)) (by rfl) ?_)
    | (refine s1_call ?_; first | (refine sc_c (by rfl) (C_call (by rfl) hc (by rfl) (by rfl) (hfar g _ (by (repeat (first | exact Ent.refl _ | exact Ent.nil | (apply Ent.pick; focus ((repeat (first | exact Rem.here | apply Rem.there)); done)) | apply Ent.drop))))) (by rfl) ?_; rintro _ _ ⟨rfl, rfl⟩) | refine sc_r (R_max (by rfl) (by rfl)) (by rfl) ?_ | refine sc_r (R_min (by rfl) (by rfl)) (by rfl) ?_)
    | (refine s1_indexAddr ?_; refine sc_r (R_indexAddr (by rfl) (by rfl) (by omega)) (by rfl) ?_)
    | (refine s1_store ?_; (refine sc_w (by rfl) (W_storeAllS (by rfl) (by rfl) (by infer_instance) (by omega) (by rfl) (by intro v hv; simp only [wcell, List.toList_toArray, List.mem_cons, List.mem_map] at hv; rcases hv with rfl | ⟨z, _, rfl⟩ <;> rfl)) (by rfl) ?_; rintro _ _ ⟨rfl, rfl⟩))
    | (refine s1_alloc ?_; (refine sc_w (by rfl) W_allocA (by rfl) ?_; rintro _ _ ⟨_, rfl, rfl⟩))
    | refine swl_nil ?_
    | refine sx_next ?_
    | refine sw_seq ?_
    | refine sw_region ?_
    | refine sw_block ?_
    | refine sw_cond_pos (by rfl) (by first | assumption | omega) ?_
    | refine sw_skip ?_
    | fail)
    rename_i b5
    have hwo : ∀ v ∈ (wcell x).toList, v.oneCell' = true := by intro v hv; simp only [wcell, List.toList_toArray, List.mem_cons, List.mem_map] at hv; rcases hv with rfl | ⟨z, _, rfl⟩ <;> rfl
    repeat' (first
    | (refine s1_slice ?_; refine sc_r (R_sliceArr_h (by rfl) (by rfl) (by omega)) (by rfl) ?_)
    | refine swl_op ?_
    | (refine s1_move ?_; refine sc_r (R_move (by rfl)) (by rfl) ?_)
    | (refine s1_load ?_; refine sc_r (L_load' (by rfl) (by infer_instance) (by rfl)) (by rfl) ?_)
    | (refine s1_fieldAddr ?_; refine sc_r (R_fieldAddr (by rfl)) (by rfl) ?_)
    | (refine s1_bin ?_; refine sc_r (R_add64 (by rfl) (by rfl) (by omega)) (by rfl) ?_)
    | (refine s1_call ?_; (refine sc_w (by rfl) (W_copyArr (by rfl) (by rfl) (by focus ((repeat (first | exact Rem.here | apply Rem.there)); done)) (by infer_instance) (by omega) hwo (by rw [List.length_map]; omega) (by omega)) (by rfl) ?_; rintro _ _ ⟨rfl, rfl⟩; rw [Int.toNat_natCast, hwc]))
    | (refine s1_indexAddr ?_; refine sc_r (R_indexAddr (by rfl) (by rfl) (by omega)) (by rfl) ?_)
    | (refine s1_any ?_; refine sc_r (R_nilCheck (by rfl)) (by rfl) ?_)
    | refine swl_nil ?_
    | refine sx_next ?_
    | refine sw_region ?_
    | refine sx_block_normal ?_
    | refine swh_lt (by rfl) (fun _ _ => wanted_none) ?_
    | refine swh_hv (by rfl) (fun _ _ => wanted_none) ?_
    | refine swh_nil ?_
    | (apply And.intro; focus ((repeat (first | exact Ent.refl _ | exact Ent.nil | (apply Ent.pick; focus ((repeat (first | exact Rem.here | apply Rem.there)); done)) | apply Ent.drop)); done))
    | (refine sw_region_draw (pt b5 (.cells (wcell x) 149) :: pt a (.cells #[.slice (some ⟨b2, o2, none⟩) bs.length cb, .slice (some ⟨b1, o1, none⟩) p.length cp, .map (some rn), x3, x4, x5, x6] T) :: L) [(0, true), (1, true), (2, true), (3, true), (4, true), (5, true), (6, true), (7, true), (8, true), (9, true), (10, true), (11, true), (12, false)] follows ?_ ?_ ?_ ?_; (focus rfl); (focus (decide +kernel)); (focus ((repeat (first | exact Ent.refl _ | exact Ent.nil | (apply Ent.pick; focus ((repeat (first | exact Rem.here | apply Rem.there)); done)) | apply Ent.drop)); done)))
    | fail)
    --DBG
    exact sx_back (g + 1) (by omega) (by omega) (subE.cons rfl (subE.cons rfl (subE.cons rfl (subE.cons rfl (subE.cons rfl subE.nil))))) (by (repeat (first | exact Ent.refl _ | exact Ent.nil | (apply Ent.pick; focus ((repeat (first | exact Rem.here | apply Rem.there)); done)) | apply Ent.drop)))
  · rw [List.take_of_length_le (by omega)]
    repeat' (first
    | refine swl_op ?_
    | (refine s1_move ?_; refine sc_r (R_move (by rfl)) (by rfl) ?_)
    | (refine s1_bin ?_; refine sc_r (R_lss (by rfl) (by rfl)) (by rfl) ?_)
    | (refine s1_call ?_; (refine sc_c (by rfl) (C_call (by rfl) (by infer_instance) (by rfl) (by rfl) (Tr.ent (Ent.pick (by focus ((repeat (first | exact Rem.here | apply Rem.there)); done)) (Ent.pick (by focus ((repeat (first | exact Rem.here | apply Rem.there)); done)) (Ent.refl _))) (dev_forget a rn))) (by rfl) ?_; rintro _ _ ⟨rfl, rfl⟩))
    | refine swl_nil ?_
    | refine sx_next ?_
    | refine sw_seq ?_
    | refine sw_region ?_
    | refine sx_past_exit ?_
    | refine sx_block_here ?_
    | refine sw_cond_neg (by rfl) (by first | assumption | omega) ?_
    | refine sw_exit ?_
    | fail)
    exact sx_end_of (res0 rfl) _ ⟨rfl, rfl⟩ (by (repeat (first | exact Ent.refl _ | exact Ent.nil | (apply Ent.pick; focus ((repeat (first | exact Rem.here | apply Rem.there)); done)) | apply Ent.drop)))
end Go.Proofs.YtjdnflhejfcgdaaDoor

/-
  Devices, walked: the public functions.
-/
namespace Go.Proofs.YtjdnflhejfcgdaaDoor
open Go Go.SL Go.Proofs

def zeros128 : List Int := List.replicate 128 0
def newDev (n : Nat) : DevS := ⟨List.replicate n zeros128, [], fun _ => 0, -1, true, true⟩
theorem newDev_OK {n : Nat} (h : n ≤ 8192) : (newDev n).OK := ⟨fun l hl => (by rw [(List.mem_replicate.1 hl).2]; simp [zeros128]), fun x hx => (by simp [newDev] at hx), (by simpa [newDev] using h), by simp [newDev]⟩
theorem newestF_nil : newestF [] = fun _ => none := by
  funext k; unfold newestF; split <;> simp [lastAt]
theorem faultF_zero : faultF (fun _ => 0) = fun _ => none := by
  funext k; unfold faultF; split <;> simp

theorem dev_New (n : Nat) (h : 1 ≤ n ∧ n ≤ 8192) {L : List HP} : Tr Tryd.prog 20 [.int .i64 n].toArray L (fun v L' => ∃ a, v = .tuple #[.pointer (some ⟨a, 0, none⟩), .int .i64 0] ∧ L' = devP a (newDev n) :: L) := by
  refine tr_enter Tryd.func20 rfl Tryd.ntmps20 rfl fun w0 => ?_
  repeat' (first
    | refine swl_op ?_
    | (refine s1_move ?_; refine sc_r (R_move (by rfl)) (by rfl) ?_)
    | (refine s1_assign ?_; refine sc_r (R_assign (by rfl)) (by rfl) ?_)
    | (refine s1_pick ?_; refine sc_r (R_pick_f (by rfl) (by rfl)) (by rfl) ?_)
    | (refine s1_bin ?_; first | refine sc_r (R_lss (by rfl) (by rfl)) (by rfl) ?_ | refine sc_r (R_gtr (by rfl) (by rfl)) (by rfl) ?_)
    | (refine s1_box ?_; (refine sc_w (by rfl) (W_boxA (by rfl)) (by rfl) ?_; rintro _ _ ⟨_, rfl, rfl⟩))
    | (refine s1_any ?_; first | refine sc_r (R_buildL (by rfl) (by rfl)) (by rfl) ?_ | (refine sc_w (by rfl) W_makeMap (by rfl) ?_; rintro _ _ ⟨_, rfl, rfl⟩) | (refine sc_w (by rfl) (W_makeSlice (n' := n) (c' := n) (zc := bcell zeros128) (by rfl) (by rfl) (by rfl) (by omega) (by omega) (by omega) (by omega)) (by rfl) ?_; rintro _ _ ⟨b0, rfl, hok0, rfl⟩))
    | refine swl_nil ?_
    | refine sx_next ?_
    | refine sw_seq ?_
    | refine sw_region ?_
    | refine swl_g_on (by rfl) (by rfl) ?_
    | refine swl_g_neg (by rfl) (by rfl) (by first | assumption | omega) ?_
    | refine sw_cond_neg (by rfl) (by first | assumption | omega) ?_
    | refine sw_ret ?_
    | refine sw_skip ?_
    | fail)
  rename_i r2 r3 a
  refine sx_ret_of (res2 rfl (ResOne.tmp rfl) (ResOne.tmp rfl)) _ ⟨_, rfl, rfl⟩ (Ent.trans ?_ (dev_close (newDev_OK h.2) (sb := .slice (some ⟨b0, 0, none⟩) n n) (sp := .slice none 0 0) (rn := r2) (rf := r3)))
  refine Ent.pick (by focus ((repeat (first | exact Rem.here | apply Rem.there)); done)) ?_
  rw [show (newDev n).blocks.map bcell = List.replicate n (bcell zeros128) by simp [newDev]]
  refine Ent.pick (by focus ((repeat (first | exact Rem.here | apply Rem.there)); done)) ?_
  refine Ent.trans ?_ Ent.vec_nil
  rw [show newestF (newDev n).pend = fun _ => none from newestF_nil, show faultF (newDev n).faults = fun _ => none from faultF_zero]
  refine Ent.trans ?_ Ent.mp_empty
  refine Ent.pick (L1 := pt r3 (.map #[] 0) :: L) (by focus ((repeat (first | exact Rem.here | apply Rem.there)); done)) ?_
  exact Ent.mp_empty
theorem dev_New_no (n : Int) (h : n < 1 ∨ 8192 < n) {L : List HP} : Tr Tryd.prog 20 [.int .i64 n].toArray L (fun v L' => v = .tuple #[.pointer none, .int .i64 1] ∧ L = L') := by
  refine tr_enter Tryd.func20 rfl Tryd.ntmps20 rfl fun w0 => ?_
  by_cases h1 : n < 1
  · repeat' (first
    | refine swl_op ?_
    | (refine s1_move ?_; refine sc_r (R_move (by rfl)) (by rfl) ?_)
    | (refine s1_assign ?_; refine sc_r (R_assign (by rfl)) (by rfl) ?_)
    | (refine s1_pick ?_; refine sc_r (R_pick_t (by rfl) (by rfl)) (by rfl) ?_)
    | (refine s1_bin ?_; refine sc_r (R_lss (by rfl) (by rfl)) (by rfl) ?_)
    | refine swl_nil ?_
    | refine sx_next ?_
    | refine sw_seq ?_
    | refine sw_region ?_
    | refine swl_g_off (by rfl) (by rfl) (by rfl) (by rfl) ?_
    | refine swl_g_pos (by rfl) (by rfl) (by first | assumption | omega) ?_
    | refine sx_past_ret ?_
    | refine sw_cond_true (by rfl) ?_
    | refine sw_ret ?_
    | fail)
    exact sx_ret_of (res2 rfl (ResOne.tmp rfl) (ResOne.tmp rfl)) _ ⟨rfl, rfl⟩ (by (repeat (first | exact Ent.refl _ | exact Ent.nil | (apply Ent.pick; focus ((repeat (first | exact Rem.here | apply Rem.there)); done)) | apply Ent.drop)))
  · repeat' (first
    | refine swl_op ?_
    | (refine s1_move ?_; refine sc_r (R_move (by rfl)) (by rfl) ?_)
    | (refine s1_assign ?_; refine sc_r (R_assign (by rfl)) (by rfl) ?_)
    | (refine s1_pick ?_; refine sc_r (R_pick_f (by rfl) (by rfl)) (by rfl) ?_)
    | (refine s1_bin ?_; first | refine sc_r (R_lss (by rfl) (by rfl)) (by rfl) ?_ | refine sc_r (R_gtr (by rfl) (by rfl)) (by rfl) ?_)
    | refine swl_nil ?_
    | refine sx_next ?_
    | refine sw_seq ?_
    | refine sw_region ?_
    | refine swl_g_on (by rfl) (by rfl) ?_
    | refine swl_g_neg (by rfl) (by rfl) (by first | assumption | omega) ?_
    | refine sx_past_ret ?_
    | refine sw_cond_pos (by rfl) (by first | assumption | omega) ?_
    | refine sw_ret ?_
    | fail)
    exact sx_ret_of (res2 rfl (ResOne.tmp rfl) (ResOne.tmp rfl)) _ ⟨rfl, rfl⟩ (by (repeat (first | exact Ent.refl _ | exact Ent.nil | (apply Ent.pick; focus ((repeat (first | exact Rem.here | apply Rem.there)); done)) | apply Ent.drop)))

theorem dev_Size (a : Nat) (s : DevS) {L : List HP} : Tr Tryd.prog 81 [.pointer (some ⟨a, 0, none⟩)].toArray (devP a s :: L) (fun v L' => v = .int .i64 s.blocks.length ∧ L' = devP a s :: L) := by
  refine Tr.open_dev fun pb cb pp cp rn rf h1 h2 h3 => ?_
  refine tr_enter Tryd.func81 rfl Tryd.ntmps81 rfl fun w0 => ?_
  repeat' (first
    | refine swl_op ?_
    | (refine s1_move ?_; refine sc_r (R_move (by rfl)) (by rfl) ?_)
    | (refine s1_load ?_; refine sc_r (L_load' (by rfl) (by infer_instance) (by rfl)) (by rfl) ?_)
    | (refine s1_fieldAddr ?_; refine sc_r (R_fieldAddr (by rfl)) (by rfl) ?_)
    | (refine s1_assign ?_; refine sc_r (R_assign (by rfl)) (by rfl) ?_)
    | (refine s1_call ?_; refine sc_r (R_len (by rfl)) (by rfl) ?_)
    | (refine s1_any ?_; refine sc_r (R_nilCheck (by rfl)) (by rfl) ?_)
    | refine swl_nil ?_
    | refine sx_next ?_
    | refine sw_seq ?_
    | refine sw_region ?_
    | refine sw_ret ?_
    | fail)
  exact sx_ret_of (res1 rfl (ResOne.tmp rfl)) _ ⟨rfl, rfl⟩ (Ent.trans (by (repeat (first | exact Ent.refl _ | exact Ent.nil | (apply Ent.pick; focus ((repeat (first | exact Rem.here | apply Rem.there)); done)) | apply Ent.drop))) (dev_close h3))

def spendS (s : DevS) : DevS := { s with budget := spendN s.budget s.power, power := spendP s.budget s.power }
def eraseS (s : DevS) : DevS := { spendS s with blocks := List.replicate s.blocks.length zeros128, pend := [] }
def flushS (s : DevS) : DevS := { spendS s with blocks := execB (fun _ => 128) s.pend s.blocks, pend := [] }
def spE (s : DevS) : Int := spendE s.budget s.power s.mounted
theorem spendN_bd {bu : Int} {po : Bool} (h : bu ≤ 9223372036854775807) : spendN bu po ≤ 9223372036854775807 := by unfold spendN; split <;> (try split) <;> omega
theorem spendS_OK {s : DevS} (h : s.OK) : (spendS s).OK := ⟨h.b128, h.p128, h.bn, spendN_bd h.bu⟩
theorem eraseS_OK {s : DevS} (h : s.OK) : (eraseS s).OK := ⟨fun l hl => (by rw [(List.mem_replicate.1 hl).2]; simp [zeros128]), fun x hx => (by simp [eraseS] at hx), (by simpa [eraseS, spendS] using h.bn), spendN_bd h.bu⟩
theorem execB_all (far : Nat → Int) {s : DevS} (h : s.OK) : ∀ l ∈ execB far s.pend s.blocks, l.length = 128 := by
  have := execB_128 far h.b128 h.p128 s.pend.length (Nat.le_refl _)
  rwa [List.take_length] at this
theorem flushS_OK {s : DevS} (h : s.OK) : (flushS s).OK := ⟨execB_all (fun _ => 128) h, fun x hx => (by simp [flushS] at hx), (by simpa [flushS, execB_len, spendS] using h.bn), spendN_bd h.bu⟩

theorem dev_Erase (a : Nat) (s : DevS) {L : List HP} : Tr Tryd.prog 49 [.pointer (some ⟨a, 0, none⟩)].toArray (devP a s :: L) (fun v L' => v = .int .i64 (spE s) ∧ L' = devP a (if spE s = 0 then eraseS s else spendS s) :: L) := by
  refine Tr.open_dev fun pb cb pp cp rn rf h1 h2 h3 => ?_
  refine tr_enter Tryd.func49 rfl Tryd.ntmps49 rfl fun w0 => ?_
  have hsp := fun (x0 x1 x2 x3 : Value) (L : List HP) => dev_spend a (x0 := x0) (x1 := x1) (x2 := x2) (x3 := x3) (po := s.power) (mo := s.mounted) (T := 100) (L := L) h3.bu
  unfold spE
  have hclr : ∀ v ∈ (bcell zeros128).toList, v.oneCell' = true := bcell_one
  by_cases h0 : spendE s.budget s.power s.mounted = 0
  · rw [h0] at hsp
    rw [if_pos h0, h0]
    repeat' (first
    | refine swl_op ?_
    | (refine s1_move ?_; refine sc_r (R_move (by rfl)) (by rfl) ?_)
    | (refine s1_load ?_; refine sc_r (L_load' (by rfl) (by infer_instance) (by rfl)) (by rfl) ?_)
    | (refine s1_fieldAddr ?_; refine sc_r (R_fieldAddr (by rfl)) (by rfl) ?_)
    | (refine s1_assign ?_; refine sc_r (R_assign (by rfl)) (by rfl) ?_)
    | (refine s1_bin ?_; refine sc_r (R_neq (by rfl) (by rfl)) (by rfl) ?_)
    | (refine s1_call ?_; first | (refine sc_c (by rfl) (C_call (by rfl) (by infer_instance) (by rfl) (by rfl) (hsp _ _ _ _ _)) (by rfl) ?_; rintro _ _ ⟨rfl, rfl⟩) | (refine sc_w (by rfl) (W_clearS (by rfl) (by focus ((repeat (first | exact Rem.here | apply Rem.there)); done)) (zc := bcell zeros128) (by rfl) hclr) (by rfl) ?_; rintro _ _ ⟨rfl, rfl⟩) | (refine sc_c (by rfl) (C_call (by rfl) (by infer_instance) (by rfl) (by rfl) (Tr.ent (Ent.pick (by focus ((repeat (first | exact Rem.here | apply Rem.there)); done)) (Ent.pick (by focus ((repeat (first | exact Rem.here | apply Rem.there)); done)) (Ent.refl _))) (dev_forget a rn))) (by rfl) ?_; rintro _ _ ⟨rfl, rfl⟩))
    | (refine s1_any ?_; refine sc_r (R_nilCheck (by rfl)) (by rfl) ?_)
    | refine swl_nil ?_
    | refine sx_next ?_
    | refine sw_seq ?_
    | refine sw_region ?_
    | refine sw_cond_false (by rfl) ?_
    | refine sw_ret ?_
    | refine sw_skip ?_
    | fail)
    refine sx_ret_of (res1 rfl (ResOne.tmp rfl)) _ ⟨rfl, rfl⟩ (Ent.trans ?_ (dev_close (eraseS_OK h3) (sb := .slice pb s.blocks.length cb) (sp := .slice none 0 0) (rn := rn) (rf := rf)))
    rw [show (eraseS s).blocks.map bcell = List.replicate s.blocks.length (bcell zeros128) by simp [eraseS], show newestF (eraseS s).pend = fun _ => none from newestF_nil]
    refine Ent.pick (by focus ((repeat (first | exact Rem.here | apply Rem.there)); done)) (Ent.pick (by focus ((repeat (first | exact Rem.here | apply Rem.there)); done)) (Ent.trans ?_ Ent.vec_nil))
    (repeat (first | exact Ent.refl _ | exact Ent.nil | (apply Ent.pick; focus ((repeat (first | exact Rem.here | apply Rem.there)); done)) | apply Ent.drop))
  · rw [if_neg h0]
    repeat' (first
    | refine swl_op ?_
    | (refine s1_move ?_; refine sc_r (R_move (by rfl)) (by rfl) ?_)
    | (refine s1_assign ?_; refine sc_r (R_assign (by rfl)) (by rfl) ?_)
    | (refine s1_bin ?_; refine sc_r (R_neq (by rfl) (by rfl)) (by rfl) ?_)
    | (refine s1_call ?_; (refine sc_c (by rfl) (C_call (by rfl) (by infer_instance) (by rfl) (by rfl) (hsp _ _ _ _ _)) (by rfl) ?_; rintro _ _ ⟨rfl, rfl⟩))
    | refine swl_nil ?_
    | refine sx_next ?_
    | refine sw_seq ?_
    | refine sw_region ?_
    | refine sx_past_ret ?_
    | refine sw_cond_nneg (by rfl) (by first | assumption | omega) ?_
    | refine sw_ret ?_
    | fail)
    exact sx_ret_of (res1 rfl (ResOne.tmp rfl)) _ ⟨rfl, rfl⟩ (Ent.trans (by (repeat (first | exact Ent.refl _ | exact Ent.nil | (apply Ent.pick; focus ((repeat (first | exact Rem.here | apply Rem.there)); done)) | apply Ent.drop))) (dev_close (spendS_OK h3)))

theorem dev_Flush1 (k : Int) {L : List HP} : Tr Tryd.prog 89 [.int .i64 k].toArray L (fun v L' => v = .int .i64 128 ∧ L = L') := by
  refine tr_enter Tryd.func89 rfl Tryd.ntmps89 rfl fun w0 => ?_
  repeat' (first
    | refine swl_op ?_
    | (refine s1_assign ?_; refine sc_r (R_assign (by rfl)) (by rfl) ?_)
    | refine swl_nil ?_
    | refine sx_next ?_
    | refine sw_seq ?_
    | refine sw_region ?_
    | refine sw_ret ?_
    | fail)
  exact sx_ret_of (res1 rfl (ResOne.tmp rfl)) _ ⟨rfl, rfl⟩ (by (repeat (first | exact Ent.refl _ | exact Ent.nil | (apply Ent.pick; focus ((repeat (first | exact Rem.here | apply Rem.there)); done)) | apply Ent.drop)))
theorem dev_Flush (a : Nat) (s : DevS) {L : List HP} : Tr Tryd.prog 51 [.pointer (some ⟨a, 0, none⟩)].toArray (devP a s :: L) (fun v L' => v = .int .i64 (spE s) ∧ L' = devP a (if spE s = 0 then flushS s else spendS s) :: L) := by
  refine Tr.open_dev fun pb cb pp cp rn rf h1 h2 h3 => ?_
  refine tr_enter Tryd.func51 rfl Tryd.ntmps51 rfl fun w0 => ?_
  have hsp := fun (x0 x1 x2 x3 : Value) (L : List HP) => dev_spend a (x0 := x0) (x1 := x1) (x2 := x2) (x3 := x3) (po := s.power) (mo := s.mounted) (T := 100) (L := L) h3.bu
  have hex := fun (L : List HP) (x3 x4 x5 x6 : Value) => dev_execute a (fid := 89) (fi := #[]) (ca := #[]) (by infer_instance) (fun _ => 128) (L := L) (fun k L' _ => dev_Flush1 k) h3.b128 h3.p128 (pb := pb) (pp := pp) (cb := cb) (cp := cp) (rn := rn) (x3 := x3) (x4 := x4) (x5 := x5) (x6 := x6) (T := 100) (d := .int .i64) (f := newestF s.pend)
  unfold spE
  by_cases h0 : spendE s.budget s.power s.mounted = 0
  · rw [h0] at hsp
    rw [if_pos h0, h0]
    repeat' (first
    | refine swl_op ?_
    | (refine s1_move ?_; refine sc_r (R_move (by rfl)) (by rfl) ?_)
    | (refine s1_assign ?_; refine sc_r (R_assign (by rfl)) (by rfl) ?_)
    | (refine s1_bin ?_; refine sc_r (R_neq (by rfl) (by rfl)) (by rfl) ?_)
    | (refine s1_call ?_; first | (refine sc_c (by rfl) (C_call (by rfl) (by infer_instance) (by rfl) (by rfl) (hsp _ _ _ _ _)) (by rfl) ?_; rintro _ _ ⟨rfl, rfl⟩) | (refine sc_c (by rfl) (C_call (by rfl) (by infer_instance) (by rfl) (by rfl) (Tr.ent (Ent.pick (by focus ((repeat (first | exact Rem.here | apply Rem.there)); done)) (Ent.pick (by focus ((repeat (first | exact Rem.here | apply Rem.there)); done)) (Ent.pick (by focus ((repeat (first | exact Rem.here | apply Rem.there)); done)) (Ent.pick (by focus ((repeat (first | exact Rem.here | apply Rem.there)); done)) (Ent.refl _))))) (hex _ _ _ _ _))) (by rfl) ?_; rintro _ _ ⟨rfl, rfl⟩))
    | refine swl_nil ?_
    | refine sx_next ?_
    | refine sw_seq ?_
    | refine sw_region ?_
    | refine sw_cond_false (by rfl) ?_
    | refine sw_ret ?_
    | refine sw_skip ?_
    | fail)
    --DBG
    refine sx_ret_of (res1 rfl (ResOne.tmp rfl)) _ ⟨rfl, rfl⟩ (Ent.trans ?_ (dev_close (flushS_OK h3) (sb := .slice pb s.blocks.length cb) (sp := .slice none 0 0) (rn := rn) (rf := rf)))
    rw [show newestF (flushS s).pend = fun _ => none from newestF_nil]
    refine Ent.pick (by focus ((repeat (first | exact Rem.here | apply Rem.there)); done)) (Ent.pick (by focus ((repeat (first | exact Rem.here | apply Rem.there)); done)) (Ent.trans ?_ Ent.vec_nil))
    (repeat (first | exact Ent.refl _ | exact Ent.nil | (apply Ent.pick; focus ((repeat (first | exact Rem.here | apply Rem.there)); done)) | apply Ent.drop))
  · rw [if_neg h0]
    repeat' (first
    | refine swl_op ?_
    | (refine s1_move ?_; refine sc_r (R_move (by rfl)) (by rfl) ?_)
    | (refine s1_assign ?_; refine sc_r (R_assign (by rfl)) (by rfl) ?_)
    | (refine s1_bin ?_; refine sc_r (R_neq (by rfl) (by rfl)) (by rfl) ?_)
    | (refine s1_call ?_; (refine sc_c (by rfl) (C_call (by rfl) (by infer_instance) (by rfl) (by rfl) (hsp _ _ _ _ _)) (by rfl) ?_; rintro _ _ ⟨rfl, rfl⟩))
    | refine swl_nil ?_
    | refine sx_next ?_
    | refine sw_seq ?_
    | refine sw_region ?_
    | refine sx_past_ret ?_
    | refine sw_cond_nneg (by rfl) (by first | assumption | omega) ?_
    | refine sw_ret ?_
    | fail)
    exact sx_ret_of (res1 rfl (ResOne.tmp rfl)) _ ⟨rfl, rfl⟩ (Ent.trans (by (repeat (first | exact Ent.refl _ | exact Ent.nil | (apply Ent.pick; focus ((repeat (first | exact Rem.here | apply Rem.there)); done)) | apply Ent.drop))) (dev_close (spendS_OK h3)))

def crashS (s : DevS) (far : List Int) : DevS := { s with blocks := execB (fun k => far.getD k 0) s.pend s.blocks, pend := [], power := false }
def onS (s : DevS) : DevS := { s with pend := [], power := true, budget := -1 }
theorem crashS_OK {s : DevS} (h : s.OK) (far : List Int) : (crashS s far).OK := ⟨execB_all (fun k => far.getD k 0) h, fun x hx => (by simp [crashS] at hx), (by simpa [crashS, execB_len] using h.bn), h.bu⟩
theorem onS_OK {s : DevS} (h : s.OK) : (onS s).OK := ⟨h.b128, fun x hx => (by simp [onS] at hx), h.bn, (by simp [onS])⟩
theorem dev_Crash1 (k : Nat) (far : List Int) (b : Nat) {p : Option Addr} {n c : Nat} {T : TypeId} {L : List HP} (hb : ReadC L b (.cells #[.slice p n c] T)) (hl : SlC L p 1 n c (far.map fun z => #[Value.int .i64 z])) :
    Tr Tryd.prog 44 [.int .i64 k, .pointer (some ⟨b, 0, none⟩)].toArray L (fun v L' => v = .int .i64 (far.getD k 0) ∧ L = L') := by
  have hlen : far.length = n := by simpa using hl.len
  refine tr_enter Tryd.func44 rfl Tryd.ntmps44 rfl fun w0 => ?_
  by_cases hk : k < n
  · obtain ⟨b1, o1, rfl⟩ := hl.ptr (by omega)
    have he : (far.map fun z => #[Value.int .i64 z]).getD k #[] = #[.int .i64 (far.getD k 0)] := by simp [List.getD, show k < far.length by omega]
    repeat' (first
    | refine swl_op ?_
    | (refine s1_move ?_; refine sc_r (R_move (by rfl)) (by rfl) ?_)
    | (refine s1_load ?_; first | refine sc_r (L_load' (by rfl) (by infer_instance) (by rfl)) (by rfl) ?_ | refine sc_r (L_load_el1 (by rfl) (by infer_instance) (by omega) (by first | assumption | rfl)) (by rfl) ?_)
    | (refine s1_assign ?_; refine sc_r (R_assign (by rfl)) (by rfl) ?_)
    | (refine s1_bin ?_; refine sc_r (R_lss (by rfl) (by rfl)) (by rfl) ?_)
    | (refine s1_call ?_; refine sc_r (R_len (by rfl)) (by rfl) ?_)
    | (refine s1_indexAddr ?_; refine sc_r (R_indexAddr (by rfl) (by rfl) (by omega)) (by rfl) ?_)
    | refine swl_nil ?_
    | refine sx_next ?_
    | refine sw_seq ?_
    | refine sw_region ?_
    | refine sx_past_ret ?_
    | refine sw_cond_pos (by rfl) (by first | assumption | omega) ?_
    | refine sw_ret ?_
    | fail)
    exact sx_ret_of (res1 rfl (ResOne.tmp rfl)) _ ⟨rfl, rfl⟩ (by (repeat (first | exact Ent.refl _ | exact Ent.nil | (apply Ent.pick; focus ((repeat (first | exact Rem.here | apply Rem.there)); done)) | apply Ent.drop)))
  · have he : far.getD k 0 = 0 := by simp [List.getD, show far.length ≤ k by omega]
    rw [he]
    repeat' (first
    | refine swl_op ?_
    | (refine s1_move ?_; refine sc_r (R_move (by rfl)) (by rfl) ?_)
    | (refine s1_load ?_; refine sc_r (L_load' (by rfl) (by infer_instance) (by rfl)) (by rfl) ?_)
    | (refine s1_assign ?_; refine sc_r (R_assign (by rfl)) (by rfl) ?_)
    | (refine s1_bin ?_; refine sc_r (R_lss (by rfl) (by rfl)) (by rfl) ?_)
    | (refine s1_call ?_; refine sc_r (R_len (by rfl)) (by rfl) ?_)
    | refine swl_nil ?_
    | refine sx_next ?_
    | refine sw_seq ?_
    | refine sw_region ?_
    | refine sw_cond_neg (by rfl) (by first | assumption | omega) ?_
    | refine sw_ret ?_
    | refine sw_skip ?_
    | fail)
    exact sx_ret_of (res1 rfl (ResOne.tmp rfl)) _ ⟨rfl, rfl⟩ (by (repeat (first | exact Ent.refl _ | exact Ent.nil | (apply Ent.pick; focus ((repeat (first | exact Rem.here | apply Rem.there)); done)) | apply Ent.drop)))
theorem dev_Crash (a : Nat) (s : DevS) (far : List Int) {p : Option Addr} {n c : Nat} {L : List HP} (hl : SlC L p 1 n c (far.map fun z => #[Value.int .i64 z])) :
    Tr Tryd.prog 18 [.pointer (some ⟨a, 0, none⟩), .slice p n c].toArray (devP a s :: L) (fun v L' => v = .tuple #[] ∧ L' = devP a (crashS s far) :: L) := by
  refine Tr.open_dev fun pb cb pp cp rn rf h1 h2 h3 => ?_
  refine tr_enter Tryd.func18 rfl Tryd.ntmps18 rfl fun w0 => ?_
  have hex := fun (b3 : Nat) (F : List HP) (hb : ReadC F b3 (.cells #[.slice p n c] 47)) (hl : SlC F p 1 n c (far.map fun z => #[Value.int .i64 z])) (x3 x4 x5 x6 : Value) => dev_execute a (fid := 44) (fi := #[]) (ca := #[.pointer (some ⟨b3, 0, none⟩)]) (by infer_instance) (fun k => far.getD k 0) (L := F) (fun k L' e => dev_Crash1 k far b3 ⟨Reads.ent e hb.h⟩ (hl.ent e)) h3.b128 h3.p128 (pb := pb) (pp := pp) (cb := cb) (cp := cp) (rn := rn) (x3 := x3) (x4 := x4) (x5 := x5) (x6 := x6) (T := 100) (d := .int .i64) (f := newestF s.pend)
  repeat' (first
    | refine swl_op ?_
    | (refine s1_move ?_; refine sc_r (R_move (by rfl)) (by rfl) ?_)
    | (refine s1_fieldAddr ?_; refine sc_r (R_fieldAddr (by rfl)) (by rfl) ?_)
    | (refine s1_call ?_; (refine sc_c (by rfl) (C_call (by rfl) (by infer_instance) (by rfl) (by rfl) (Tr.ent (Ent.pick (by focus ((repeat (first | exact Rem.here | apply Rem.there)); done)) (Ent.pick (by focus ((repeat (first | exact Rem.here | apply Rem.there)); done)) (Ent.pick (by focus ((repeat (first | exact Rem.here | apply Rem.there)); done)) (Ent.pick (by focus ((repeat (first | exact Rem.here | apply Rem.there)); done)) (Ent.refl _))))) (hex _ _ (by infer_instance) (by infer_instance) _ _ _ _))) (by rfl) ?_; rintro _ _ ⟨rfl, rfl⟩))
    | (refine s1_store ?_; (refine sc_w (by rfl) (W_storeL (by rfl) (by rfl) (by infer_instance) (by rfl) (by rfl) (by rfl)) (by rfl) ?_; rintro _ _ ⟨rfl, rfl⟩))
    | (refine s1_box ?_; (refine sc_w (by rfl) (W_box1 (by rfl) (by rfl)) (by rfl) ?_; rintro _ _ ⟨_, rfl, rfl⟩))
    | (refine s1_any ?_; first | refine sc_r (R_nilCheck (by rfl)) (by rfl) ?_ | refine sc_r (R_makeFunc (by rfl) (by rfl)) (by rfl) ?_)
    | refine swl_nil ?_
    | refine sx_next ?_
    | refine sw_seq ?_
    | refine sw_region ?_
    | fail)
  --DBG
  refine sx_end_of (res0 rfl) _ ⟨rfl, rfl⟩ (Ent.trans ?_ (dev_close (crashS_OK h3 far) (sb := .slice pb s.blocks.length cb) (sp := .slice none 0 0) (rn := rn) (rf := rf)))
  rw [show newestF (crashS s far).pend = fun _ => none from newestF_nil]
  refine Ent.pick (by focus ((repeat (first | exact Rem.here | apply Rem.there)); done)) (Ent.pick (by focus ((repeat (first | exact Rem.here | apply Rem.there)); done)) (Ent.trans ?_ Ent.vec_nil))
  (repeat (first | exact Ent.refl _ | exact Ent.nil | (apply Ent.pick; focus ((repeat (first | exact Rem.here | apply Rem.there)); done)) | apply Ent.drop))
theorem dev_On (a : Nat) (s : DevS) {L : List HP} : Tr Tryd.prog 19 [.pointer (some ⟨a, 0, none⟩)].toArray (devP a s :: L) (fun v L' => v = .tuple #[] ∧ L' = devP a (onS s) :: L) := by
  refine Tr.open_dev fun pb cb pp cp rn rf h1 h2 h3 => ?_
  refine tr_enter Tryd.func19 rfl Tryd.ntmps19 rfl fun w0 => ?_
  repeat' (first
    | refine swl_op ?_
    | (refine s1_move ?_; refine sc_r (R_move (by rfl)) (by rfl) ?_)
    | (refine s1_fieldAddr ?_; refine sc_r (R_fieldAddr (by rfl)) (by rfl) ?_)
    | (refine s1_call ?_; (refine sc_c (by rfl) (C_call (by rfl) (by infer_instance) (by rfl) (by rfl) (Tr.ent (Ent.pick (by focus ((repeat (first | exact Rem.here | apply Rem.there)); done)) (Ent.pick (by focus ((repeat (first | exact Rem.here | apply Rem.there)); done)) (Ent.refl _))) (dev_forget a rn))) (by rfl) ?_; rintro _ _ ⟨rfl, rfl⟩))
    | (refine s1_store ?_; (refine sc_w (by rfl) (W_storeL (by rfl) (by rfl) (by infer_instance) (by rfl) (by rfl) (by rfl)) (by rfl) ?_; rintro _ _ ⟨rfl, rfl⟩))
    | (refine s1_any ?_; refine sc_r (R_nilCheck (by rfl)) (by rfl) ?_)
    | refine swl_nil ?_
    | refine sx_next ?_
    | refine sw_seq ?_
    | refine sw_region ?_
    | fail)
  refine sx_end_of (res0 rfl) _ ⟨rfl, rfl⟩ (Ent.trans ?_ (dev_close (onS_OK h3) (sb := .slice pb s.blocks.length cb) (sp := .slice none 0 0) (rn := rn) (rf := rf)))
  rw [show newestF (onS s).pend = fun _ => none from newestF_nil]
  refine Ent.pick (by focus ((repeat (first | exact Rem.here | apply Rem.there)); done)) (Ent.pick (by focus ((repeat (first | exact Rem.here | apply Rem.there)); done)) (Ent.trans ?_ Ent.vec_nil))
  (repeat (first | exact Ent.refl _ | exact Ent.nil | (apply Ent.pick; focus ((repeat (first | exact Rem.here | apply Rem.there)); done)) | apply Ent.drop))
end Go.Proofs.YtjdnflhejfcgdaaDoor

/-
  Devices, walked: Read and Write.
-/
namespace Go.Proofs.YtjdnflhejfcgdaaDoor
open Go Go.SL Go.Proofs

section
variable {P : Program} {w0 : World} {nt : Cx} {L : List HP} {env : Env} {ty : TypeId}
theorem R_fault {t kt et : TypeId} {x i : Operand} {r : Nat} {z : Int} {f : Int → Int} [hm : Und P t (.map kt et)] [hd : Und P kt (.int .i64)] [hz : ZeroC P et (.int .i64 0)] (hx : evO env x = some (.map (some r))) (hi : evO env i = some (.int .i64 z))
    (hc : MpC L r (.int .i64) (faultF f)) : OpR P w0 nt L env (.lookup t x i false) ty (.int .i64 (f z)) := by
  by_cases h0 : f z = 0
  · rw [h0]
    exact R_lookup1_no hx hi hc rfl (by rfl) (by simp [faultF, h0])
  · exact R_lookup1_yes hx hi hc rfl (by rfl) (by simp [faultF, h0])
end

def thereB (s : DevS) (i : Int) : Bool := decide (0 ≤ i ∧ i < (s.blocks.length : Int))
def curB (s : DevS) (i : Int) : List Int := match lastAt s.pend i with | some k => (s.pend.getD k (0, [])).2 | none => s.blocks.getD i.toNat []
def rdE (s : DevS) (i : Int) : Int := if !thereB s i then 4 else if !s.power then 10 else if !s.mounted || decide (bAnd .i64 (s.faults i) 1 ≠ 0) then 9 else 0
def rdB (s : DevS) (i : Int) : List Int := if rdE s i = 0 then curB s i else []
theorem curB_len {s : DevS} (h : s.OK) {i : Int} (hi : thereB s i = true) : (curB s i).length = 128 := by
  simp only [thereB, decide_eq_true_eq] at hi
  unfold curB
  split
  · rename_i k hk
    obtain ⟨x, hx, _⟩ := lastAt_some hk
    simp only [List.getD, hx, Option.getD_some]
    exact (h.p128 x (List.mem_of_getElem? hx)).1
  · have h1 : i.toNat < s.blocks.length := by omega
    simp only [List.getD, List.getElem?_eq_getElem h1, Option.getD_some]
    exact h.b128 _ (List.getElem_mem h1)

set_option maxHeartbeats 4000000 in
theorem dev_Read (a : Nat) (s : DevS) (i : Int) {L : List HP} : Tr Tryd.prog 75 [.pointer (some ⟨a, 0, none⟩), .int .i64 i].toArray (devP a s :: L)
    (fun v L' => ∃ sl, v = .tuple #[sl, .int .i64 (rdE s i)] ∧ L' = vec 147 1 ((rdB s i).map u8c) sl :: devP a s :: L) := by
  refine Tr.open_dev fun pb cb pp cp rn rf h1 h2 h3 => ?_
  refine tr_enter Tryd.func75 rfl Tryd.ntmps75 rfl fun w0 => ?_
  have hcl := fun hi => curB_len h3 (i := i) hi
  unfold rdB
  cases hth : thereB s i
  · have hE : rdE s i = 4 := by simp [rdE, hth]
    rw [hE, if_neg (by decide)]
    repeat' (first
    | refine swl_op ?_
    | (refine s1_move ?_; refine sc_r (R_move (by rfl)) (by rfl) ?_)
    | (refine s1_assign ?_; refine sc_r (R_assign (by rfl)) (by rfl) ?_)
    | (refine s1_call ?_; (refine sc_c (by rfl) (C_call (by rfl) (by infer_instance) (by rfl) (by rfl) (dev_there' a i _ (by infer_instance) hth)) (by rfl) ?_; rintro _ _ ⟨rfl, rfl⟩))
    | (refine s1_any ?_; refine sc_r (R_not (by rfl)) (by rfl) ?_)
    | refine swl_nil ?_
    | refine sx_next ?_
    | refine sw_seq ?_
    | refine sw_region ?_
    | refine sw_block ?_
    | refine sx_past_ret ?_
    | refine sx_block_ret ?_
    | refine sw_cond_true (by rfl) ?_
    | refine sw_ret ?_
    | fail)
    exact sx_ret_of (res2 rfl (ResOne.tmp rfl) (ResOne.tmp rfl)) _ ⟨_, rfl, rfl⟩ (Ent.trans (Ent.trans (by (repeat (first | exact Ent.refl _ | exact Ent.nil | (apply Ent.pick; focus ((repeat (first | exact Rem.here | apply Rem.there)); done)) | apply Ent.drop))) (dev_close h3)) Ent.vec_nil)
  · replace hcl := hcl hth
    have hth' := hth
    simp only [thereB, decide_eq_true_eq] at hth'
    unfold curB at hcl ⊢
    unfold rdE
    rw [hth]
    obtain ⟨bs, p, fl, bu, po, mo⟩ := s
    dsimp only [thereB] at *
    cases po
    · repeat' (first
    | refine swl_op ?_
    | (refine s1_move ?_; refine sc_r (R_move (by rfl)) (by rfl) ?_)
    | (refine s1_load ?_; refine sc_r (L_load' (by rfl) (by infer_instance) (by rfl)) (by rfl) ?_)
    | (refine s1_fieldAddr ?_; refine sc_r (R_fieldAddr (by rfl)) (by rfl) ?_)
    | (refine s1_assign ?_; refine sc_r (R_assign (by rfl)) (by rfl) ?_)
    | (refine s1_call ?_; (refine sc_c (by rfl) (C_call (by rfl) (by infer_instance) (by rfl) (by rfl) (dev_there' a i _ (by infer_instance) hth)) (by rfl) ?_; rintro _ _ ⟨rfl, rfl⟩))
    | (refine s1_any ?_; first | refine sc_r (R_not (by rfl)) (by rfl) ?_ | refine sc_r (R_nilCheck (by rfl)) (by rfl) ?_)
    | refine swl_nil ?_
    | refine sx_next ?_
    | refine sw_seq ?_
    | refine sw_region ?_
    | refine sw_block ?_
    | refine sx_past_ret ?_
    | refine sx_block_ret ?_
    | refine sw_cond_true (by rfl) ?_
    | refine sw_cond_false (by rfl) ?_
    | refine sw_ret ?_
    | fail)
      exact sx_ret_of (res2 rfl (ResOne.tmp rfl) (ResOne.tmp rfl)) _ ⟨_, rfl, rfl⟩ (Ent.trans (Ent.trans (by (repeat (first | exact Ent.refl _ | exact Ent.nil | (apply Ent.pick; focus ((repeat (first | exact Rem.here | apply Rem.there)); done)) | apply Ent.drop))) (dev_close h3)) Ent.vec_nil)
    · by_cases h9 : mo = false ∨ bAnd .i64 (fl i) 1 ≠ 0
      · have hE : (if (!true) = true then (4 : Int) else if (!true) = true then 10 else if (!mo || decide (bAnd .i64 (fl i) 1 ≠ 0)) = true then 9 else 0) = 9 := by
          rcases h9 with rfl | h9
          · rfl
          · simp [h9]
        rw [hE, if_neg (by decide)]
        rcases mo with _ | _
        · repeat' (first
    | refine swl_op ?_
    | (refine s1_move ?_; refine sc_r (R_move (by rfl)) (by rfl) ?_)
    | (refine s1_load ?_; refine sc_r (L_load' (by rfl) (by infer_instance) (by rfl)) (by rfl) ?_)
    | (refine s1_fieldAddr ?_; refine sc_r (R_fieldAddr (by rfl)) (by rfl) ?_)
    | (refine s1_assign ?_; refine sc_r (R_assign (by rfl)) (by rfl) ?_)
    | (refine s1_pick ?_; refine sc_r (R_pick_t (by rfl) (by rfl)) (by rfl) ?_)
    | (refine s1_call ?_; (refine sc_c (by rfl) (C_call (by rfl) (by infer_instance) (by rfl) (by rfl) (dev_there' a i _ (by infer_instance) hth)) (by rfl) ?_; rintro _ _ ⟨rfl, rfl⟩))
    | (refine s1_any ?_; first | refine sc_r (R_not (by rfl)) (by rfl) ?_ | refine sc_r (R_nilCheck (by rfl)) (by rfl) ?_)
    | refine swl_nil ?_
    | refine sx_next ?_
    | refine sw_seq ?_
    | refine sw_region ?_
    | refine sw_block ?_
    | refine swl_g_off (by rfl) (by rfl) (by rfl) (by rfl) ?_
    | refine sx_past_ret ?_
    | refine sx_block_ret ?_
    | refine sw_cond_true (by rfl) ?_
    | refine sw_cond_false (by rfl) ?_
    | refine sw_ret ?_
    | fail)
          exact sx_ret_of (res2 rfl (ResOne.tmp rfl) (ResOne.tmp rfl)) _ ⟨_, rfl, rfl⟩ (Ent.trans (Ent.trans (by (repeat (first | exact Ent.refl _ | exact Ent.nil | (apply Ent.pick; focus ((repeat (first | exact Rem.here | apply Rem.there)); done)) | apply Ent.drop))) (dev_close h3)) Ent.vec_nil)
        · replace h9 : bAnd .i64 (fl i) 1 ≠ 0 := by simpa using h9
          repeat' (first
    | refine swl_op ?_
    | (refine s1_move ?_; refine sc_r (R_move (by rfl)) (by rfl) ?_)
    | (refine s1_load ?_; refine sc_r (L_load' (by rfl) (by infer_instance) (by rfl)) (by rfl) ?_)
    | (refine s1_fieldAddr ?_; refine sc_r (R_fieldAddr (by rfl)) (by rfl) ?_)
    | (refine s1_assign ?_; refine sc_r (R_assign (by rfl)) (by rfl) ?_)
    | (refine s1_pick ?_; refine sc_r (R_pick_f (by rfl) (by rfl)) (by rfl) ?_)
    | (refine s1_bin ?_; first | refine sc_r (R_neq (by rfl) (by rfl)) (by rfl) ?_ | refine sc_r (R_and (by rfl) (by rfl)) (by rfl) ?_)
    | (refine s1_call ?_; (refine sc_c (by rfl) (C_call (by rfl) (by infer_instance) (by rfl) (by rfl) (dev_there' a i _ (by infer_instance) hth)) (by rfl) ?_; rintro _ _ ⟨rfl, rfl⟩))
    | (refine s1_any ?_; first | refine sc_r (R_not (by rfl)) (by rfl) ?_ | refine sc_r (R_nilCheck (by rfl)) (by rfl) ?_ | refine sc_r (R_fault (by rfl) (by rfl) (by infer_instance)) (by rfl) ?_)
    | refine swl_nil ?_
    | refine sx_next ?_
    | refine sw_seq ?_
    | refine sw_region ?_
    | refine sw_block ?_
    | refine swl_g_on (by rfl) (by rfl) ?_
    | refine sx_past_ret ?_
    | refine sx_block_ret ?_
    | refine sw_cond_false (by rfl) ?_
    | refine sw_cond_nneg (by rfl) (by first | assumption | omega) ?_
    | refine sw_ret ?_
    | fail)
          exact sx_ret_of (res2 rfl (ResOne.tmp rfl) (ResOne.tmp rfl)) _ ⟨_, rfl, rfl⟩ (Ent.trans (Ent.trans (by (repeat (first | exact Ent.refl _ | exact Ent.nil | (apply Ent.pick; focus ((repeat (first | exact Rem.here | apply Rem.there)); done)) | apply Ent.drop))) (dev_close h3)) Ent.vec_nil)
      · obtain ⟨hmo, h9⟩ := not_or.1 h9
        replace hmo : mo = true := by simpa using hmo
        subst hmo
        replace h9 : bAnd .i64 (fl i) 1 = 0 := by simpa using h9
        have hE : (if (!true) = true then (4 : Int) else if (!true) = true then 10 else if (!true || decide (bAnd .i64 (fl i) 1 ≠ 0)) = true then 9 else 0) = 0 := by simp [h9]
        rw [hE, if_pos rfl]
        have hl1 : i.toNat < bs.length := by omega
        have he1 : (bs.map bcell).getD i.toNat #[] = bcell (bs.getD i.toNat []) := by simp [List.getD, hl1]
        have h128 : (bs.getD i.toNat []).length = 128 := by
          simp only [List.getD, List.getElem?_eq_getElem hl1, Option.getD_some]
          exact h3.b128 _ (List.getElem_mem hl1)
        have hn0 : (bcell (bs.getD i.toNat [])).size = 128 := by rw [bcell_size]; exact h128
        obtain ⟨b1, o1, rfl⟩ := h1.ptr (by omega)
        rcases hla : lastAt p i with _ | k
        · have hnw : newestF p (.int .i64 i) = none := by simp [newestF, hla]
          rw [hla] at hcl
          repeat' (first
    | (refine s1_slice ?_; refine sc_r (R_sliceArr (by rfl)) (by rfl) ?_)
    | refine swl_op ?_
    | (refine s1_move ?_; refine sc_r (R_move (by rfl)) (by rfl) ?_)
    | (refine s1_load ?_; first | refine sc_r (L_load' (by rfl) (by infer_instance) (by rfl)) (by rfl) ?_ | refine sc_r (L_load_el (by rfl) (by infer_instance) (by infer_instance) (by omega) (by first | assumption | rfl)) (by rfl) ?_)
    | (refine s1_fieldAddr ?_; refine sc_r (R_fieldAddr (by rfl)) (by rfl) ?_)
    | (refine s1_assign ?_; refine sc_r (R_assign (by rfl)) (by rfl) ?_)
    | (refine s1_pick ?_; refine sc_r (R_pick_f (by rfl) (by rfl)) (by rfl) ?_)
    | (refine s1_bin ?_; first | refine sc_r (R_neq (by rfl) (by rfl)) (by rfl) ?_ | refine sc_r (R_and (by rfl) (by rfl)) (by rfl) ?_)
    | (refine s1_call ?_; (refine sc_c (by rfl) (C_call (by rfl) (by infer_instance) (by rfl) (by rfl) (dev_there' a i _ (by infer_instance) hth)) (by rfl) ?_; rintro _ _ ⟨rfl, rfl⟩))
    | (refine s1_indexAddr ?_; refine sc_r (R_indexAddr (by rfl) (by rfl) (by omega)) (by rfl) ?_)
    | (refine s1_store ?_; (refine sc_w (by rfl) (W_storeAllS (by rfl) (by rfl) (by infer_instance) hn0 (by rfl) bcell_one) (by rfl) ?_; rintro _ _ ⟨rfl, rfl⟩))
    | (refine s1_alloc ?_; (refine sc_w (by rfl) W_allocA (by rfl) ?_; rintro _ _ ⟨_, rfl, rfl⟩))
    | (refine s1_any ?_; first | refine sc_r (R_not (by rfl)) (by rfl) ?_ | refine sc_r (R_extract (by rfl) (by rfl)) (by rfl) ?_ | refine sc_r (R_nilCheck (by rfl)) (by rfl) ?_ | refine sc_r (R_lookup_no (by rfl) (by rfl) (by infer_instance) (by rfl) (by rfl) hnw) (by rfl) ?_ | refine sc_r (R_fault (by rfl) (by rfl) (by infer_instance)) (by rfl) ?_)
    | refine swl_nil ?_
    | refine sx_next ?_
    | refine sw_seq ?_
    | refine sw_region ?_
    | refine sw_block ?_
    | refine swl_g_on (by rfl) (by rfl) ?_
    | refine sx_block_normal ?_
    | refine sw_cond_false (by rfl) ?_
    | refine sw_cond_npos (by rfl) (by first | assumption | omega) ?_
    | refine sw_ret ?_
    | refine sw_skip ?_
    | fail)
          dsimp only
          refine sx_ret_of (res2 rfl (ResOne.tmp rfl) (ResOne.tmp rfl)) _ ⟨_, rfl, rfl⟩ (Ent.trans ?_ (Ent.trans (Ent.cons (dev_close h3 (sb := .slice (some ⟨b1, o1, none⟩) bs.length cb) (sp := .slice pp p.length cp) (rn := rn) (rf := rf))) (Ent.vec_block h128 (by omega))))
          (repeat (first | exact Ent.refl _ | exact Ent.nil | (apply Ent.pick; focus ((repeat (first | exact Rem.here | apply Rem.there)); done)) | apply Ent.drop))
        · have hnw : newestF p (.int .i64 i) = some (.int .i64 (k : Int)) := by simp [newestF, hla]
          rw [hla] at hcl
          obtain ⟨x, hx, _⟩ := lastAt_some hla
          have hk : k < p.length := (List.getElem?_eq_some_iff.1 hx).1
          have hx2 := h3.p128 x (List.mem_of_getElem? hx)
          have he2 : (p.map wcell).getD k #[] = wcell x := by simp [List.getD, hx]
          have hwl : ((wcell x).toList.drop 1).take 128 = x.2.map (Value.int .u8) := by
            simp only [wcell, List.toList_toArray, List.drop_succ_cons, List.drop_zero]
            exact List.take_of_length_le (by rw [List.length_map]; omega)
          have hgx : (p.getD k (0, [])).2 = x.2 := by simp [List.getD, hx]
          have hn2 : (bcell x.2).size = 128 := by rw [bcell_size]; exact hx2.1
          obtain ⟨b2, o2, rfl⟩ := h2.ptr (by omega)
          dsimp only
          rw [hgx]
          repeat' (first
    | (refine s1_load ?_; refine sc_r (L_load_elpart (f := 1) (m := 128) (by rfl) (by infer_instance) (by omega) he2 hwl (by omega)) (by rfl) ?_)
    | (refine s1_slice ?_; refine sc_r (R_sliceArr (by rfl)) (by rfl) ?_)
    | refine swl_op ?_
    | (refine s1_move ?_; refine sc_r (R_move (by rfl)) (by rfl) ?_)
    | (refine s1_load ?_; first | refine sc_r (L_load' (by rfl) (by infer_instance) (by rfl)) (by rfl) ?_ | refine sc_r (L_load_el (by rfl) (by infer_instance) (by infer_instance) (by omega) (by first | assumption | rfl)) (by rfl) ?_)
    | (refine s1_fieldAddr ?_; refine sc_r (R_fieldAddr (by rfl)) (by rfl) ?_)
    | (refine s1_assign ?_; refine sc_r (R_assign (by rfl)) (by rfl) ?_)
    | (refine s1_pick ?_; refine sc_r (R_pick_f (by rfl) (by rfl)) (by rfl) ?_)
    | (refine s1_bin ?_; first | refine sc_r (R_neq (by rfl) (by rfl)) (by rfl) ?_ | refine sc_r (R_and (by rfl) (by rfl)) (by rfl) ?_)
    | (refine s1_call ?_; (refine sc_c (by rfl) (C_call (by rfl) (by infer_instance) (by rfl) (by rfl) (dev_there' a i _ (by infer_instance) hth)) (by rfl) ?_; rintro _ _ ⟨rfl, rfl⟩))
    | (refine s1_indexAddr ?_; refine sc_r (R_indexAddr (by rfl) (by rfl) (by omega)) (by rfl) ?_)
    | (refine s1_store ?_; first | (refine sc_w (by rfl) (W_storeAllS (by rfl) (by rfl) (by infer_instance) hn0 (by rfl) bcell_one) (by rfl) ?_; rintro _ _ ⟨rfl, rfl⟩) | (refine sc_w (by rfl) (W_storeAllS (vs := bcell x.2) (by rfl) (by rfl) (by infer_instance) hn2 hn0 bcell_one) (by rfl) ?_; rintro _ _ ⟨rfl, rfl⟩))
    | (refine s1_alloc ?_; (refine sc_w (by rfl) W_allocA (by rfl) ?_; rintro _ _ ⟨_, rfl, rfl⟩))
    | (refine s1_any ?_; first | refine sc_r (R_not (by rfl)) (by rfl) ?_ | refine sc_r (R_extract (by rfl) (by rfl)) (by rfl) ?_ | refine sc_r (R_nilCheck (by rfl)) (by rfl) ?_ | refine sc_r (R_lookup_yes (by rfl) (by rfl) (by infer_instance) (by rfl) (by rfl) hnw) (by rfl) ?_ | refine sc_r (R_fault (by rfl) (by rfl) (by infer_instance)) (by rfl) ?_)
    | refine swl_nil ?_
    | refine sx_next ?_
    | refine sw_seq ?_
    | refine sw_region ?_
    | refine sw_block ?_
    | refine swl_g_on (by rfl) (by rfl) ?_
    | refine sx_block_normal ?_
    | refine sw_cond_true (by rfl) ?_
    | refine sw_cond_false (by rfl) ?_
    | refine sw_cond_npos (by rfl) (by first | assumption | omega) ?_
    | refine sw_ret ?_
    | refine sw_skip ?_
    | fail)
          refine sx_ret_of (res2 rfl (ResOne.tmp rfl) (ResOne.tmp rfl)) _ ⟨_, rfl, rfl⟩ (Ent.trans ?_ (Ent.trans (Ent.cons (dev_close h3 (sb := .slice (some ⟨b1, o1, none⟩) bs.length cb) (sp := .slice (some ⟨b2, o2, none⟩) p.length cp) (rn := rn) (rf := rf))) (Ent.vec_block hx2.1 (by omega))))
          (repeat (first | exact Ent.refl _ | exact Ent.nil | (apply Ent.pick; focus ((repeat (first | exact Rem.here | apply Rem.there)); done)) | apply Ent.drop))
end Go.Proofs.YtjdnflhejfcgdaaDoor

/-
  Devices, walked: Write.
-/
namespace Go.Proofs.YtjdnflhejfcgdaaDoor
open Go Go.SL Go.Proofs

def wrE (s : DevS) (i : Int) (n : Nat) : Int := if !thereB s i then 4 else if n ≠ 128 then 1 else if spE s ≠ 0 then spE s else if bAnd .i64 (s.faults i) 2 ≠ 0 then 9 else 0
def addS (s : DevS) (i : Int) (b : List Int) : DevS := { spendS s with pend := s.pend ++ [(i.toNat, b)] }
def wrS (s : DevS) (i : Int) (b : List Int) : DevS := if thereB s i = true ∧ b.length = 128 then (if wrE s i b.length = 0 then addS s i b else spendS s) else s
theorem addS_OK {s : DevS} (h : s.OK) {i : Int} {b : List Int} (hi : thereB s i = true) (hb : b.length = 128) : (addS s i b).OK := by
  refine ⟨h.b128, fun x hx => ?_, h.bn, spendN_bd h.bu⟩
  simp only [thereB, decide_eq_true_eq] at hi
  rcases List.mem_append.1 hx with hx | hx
  · exact h.p128 x hx
  · obtain rfl := List.mem_singleton.1 hx
    exact ⟨hb, by show i.toNat < s.blocks.length; omega⟩
theorem wrS_OK {s : DevS} (h : s.OK) (i : Int) (b : List Int) : (wrS s i b).OK := by
  unfold wrS
  split
  · rename_i hc
    split
    · exact addS_OK h hc.1 hc.2
    · exact spendS_OK h
  · exact h

theorem newestF_snoc {p : List (Nat × List Int)} {i : Int} {b : List Int} (hi : 0 ≤ i) : newestF (p ++ [(i.toNat, b)]) (.int .i64 i) = some (.int .i64 (p.length : Int)) := by
  simp only [newestF, lastAt_snoc]
  rw [if_pos (by omega)]; rfl
theorem newestF_snoc_other {p : List (Nat × List Int)} {i : Int} {b : List Int} (hi : 0 ≤ i) {u : Value} (h : u ≠ .int .i64 i) : newestF (p ++ [(i.toNat, b)]) u = newestF p u := by
  unfold newestF
  split
  · rename_i z
    have hz : z ≠ i := fun e => h (by rw [e])
    rw [lastAt_snoc, if_neg (by simp only; omega)]
  · rfl

section
variable {w0 : World} {nt : Cx} {L : List HP} {env : Env} {ty : TypeId}
theorem R_build_write {x y : Operand} {i : Int} {b : List Int} (hi : 0 ≤ i) (hb : b.length = 128) (hx : evO env x = some (.int .i64 i)) (hy : evO env y = some (.agg (bcell b))) :
    OpR Tryd.prog w0 nt L env (.build 149 #[(0, x), (1, y)]) ty (.agg (wcell (i.toNat, b))) := by
  refine R_build (ps := [(0, x), (1, y)]) (vs := [(0, .int .i64 i), (1, .agg (bcell b))]) (by simp [evP, hx, hy]) ?_
  have hz : (Value.agg Tryd.zeroCells149).cells = (Value.int .i64 0 :: List.replicate 128 (Value.int .u8 0)).toArray := by rfl
  have hbs : (Value.agg (bcell b)).cells = bcell b := rfl
  have his : (Value.int .i64 i).cells = #[.int .i64 i] := rfl
  rw [hz]
  have hw := wrs_all (l := b.map (Value.int .u8)) (List.replicate 128 (Value.int .u8 0)) [Value.int .i64 i] (by simp [hb])
  simp only [Instr.fill, hbs, his, bcell_size, hb, fold_wrs']
  simp [wrs, bcell] at hw ⊢
  rw [hw]
  simp [wcell, Int.toNat_of_nonneg hi]
end

set_option maxHeartbeats 4000000 in
theorem dev_Write (a : Nat) (s : DevS) (i : Int) (b : List Int) (hpn : s.pend.length ≤ 1000000000) {p : Option Addr} {n c : Nat} {L : List HP} (hb : SlC L p 1 n c (b.map u8c)) :
    Tr Tryd.prog 88 [.pointer (some ⟨a, 0, none⟩), .int .i64 i, .slice p n c].toArray (devP a s :: L) (fun v L' => v = .int .i64 (wrE s i b.length) ∧ L' = devP a (wrS s i b) :: L) := by
  refine Tr.open_dev fun pb cb pp cp rn rf h1 h2 h3 => ?_
  have hlen : b.length = n := by simpa using hb.len
  refine tr_enter Tryd.func88 rfl Tryd.ntmps88 rfl fun w0 => ?_
  have hsp := fun (x0 x1 x2 x3 : Value) (L : List HP) => dev_spend a (x0 := x0) (x1 := x1) (x2 := x2) (x3 := x3) (po := s.power) (mo := s.mounted) (T := 100) (L := L) h3.bu
  cases hth : thereB s i
  · have hE : wrE s i b.length = 4 := by simp [wrE, hth]
    have hS : wrS s i b = s := by simp [wrS, hth]
    rw [hE, hS]
    repeat' (first
    | refine swl_op ?_
    | (refine s1_move ?_; refine sc_r (R_move (by rfl)) (by rfl) ?_)
    | (refine s1_assign ?_; refine sc_r (R_assign (by rfl)) (by rfl) ?_)
    | (refine s1_call ?_; (refine sc_c (by rfl) (C_call (by rfl) (by infer_instance) (by rfl) (by rfl) (dev_there' a i _ (by infer_instance) hth)) (by rfl) ?_; rintro _ _ ⟨rfl, rfl⟩))
    | (refine s1_any ?_; refine sc_r (R_not (by rfl)) (by rfl) ?_)
    | refine swl_nil ?_
    | refine sx_next ?_
    | refine sw_seq ?_
    | refine sw_region ?_
    | refine sw_block ?_
    | refine sx_past_ret ?_
    | refine sx_block_ret ?_
    | refine sw_cond_true (by rfl) ?_
    | refine sw_ret ?_
    | fail)
    exact sx_ret_of (res1 rfl (ResOne.tmp rfl)) _ ⟨rfl, rfl⟩ (Ent.trans (by (repeat (first | exact Ent.refl _ | exact Ent.nil | (apply Ent.pick; focus ((repeat (first | exact Rem.here | apply Rem.there)); done)) | apply Ent.drop))) (dev_close h3))
  · have hth' := hth
    simp only [thereB, decide_eq_true_eq] at hth'
    by_cases hn : n = 128
    · subst hn
      by_cases h0 : spendE s.budget s.power s.mounted = 0
      · rw [h0] at hsp
        by_cases h9 : bAnd .i64 (s.faults i) 2 = 0
        · have hE : wrE s i b.length = 0 := by simp [wrE, hth, hlen, spE, h0, h9]
          have hS : wrS s i b = addS s i b := by rw [wrS, if_pos ⟨hth, hlen⟩, if_pos hE]
          rw [hE, hS]
          have hws : (wcell (i.toNat, b)).size = 129 := by rw [wcell_size]; simp [hlen]
          have hwo : ∀ v ∈ (wcell (i.toNat, b)).toList, v.oneCell' = true := by intro v hv; simp only [wcell, List.toList_toArray, List.mem_cons, List.mem_map] at hv; rcases hv with rfl | ⟨z, _, rfl⟩ <;> rfl
          have hpl : (s.pend.map wcell).length ≤ 1000000000 := by simpa using hpn
          obtain ⟨b0, o0, rfl⟩ := hb.ptr (by omega)
          repeat' (first
    | refine swl_op ?_
    | (refine s1_move ?_; refine sc_r (R_move (by rfl)) (by rfl) ?_)
    | (refine s1_load ?_; refine sc_r (L_load' (by rfl) (by infer_instance) (by rfl)) (by rfl) ?_)
    | (refine s1_fieldAddr ?_; refine sc_r (R_fieldAddr (by rfl)) (by rfl) ?_)
    | (refine s1_assign ?_; refine sc_r (R_assign (by rfl)) (by rfl) ?_)
    | (refine s1_bin ?_; first | refine sc_r (R_neq (by rfl) (by rfl)) (by rfl) ?_ | refine sc_r (R_and (by rfl) (by rfl)) (by rfl) ?_)
    | (refine s1_call ?_; first | (refine sc_c (by rfl) (C_call (by rfl) (by infer_instance) (by rfl) (by rfl) (dev_there' a i _ (by infer_instance) hth)) (by rfl) ?_; rintro _ _ ⟨rfl, rfl⟩) | (refine sc_c (by rfl) (C_call (by rfl) (by infer_instance) (by rfl) (by rfl) (hsp _ _ _ _ _)) (by rfl) ?_; rintro _ _ ⟨rfl, rfl⟩) | refine sc_r (R_len (by rfl)) (by rfl) ?_)
    | (refine s1_any ?_; first | refine sc_r (R_not (by rfl)) (by rfl) ?_ | refine sc_r (R_nilCheck (by rfl)) (by rfl) ?_ | refine sc_r (R_fault (by rfl) (by rfl) (by infer_instance)) (by rfl) ?_ | (refine sc_w (by rfl) (W_mapUpdate (newestF (s.pend ++ [(i.toNat, b)])) (by rfl) (by rfl) (by rfl) (by focus ((repeat (first | exact Rem.here | apply Rem.there)); done)) (by rfl) (by rfl) (newestF_snoc hth'.1) (fun u hu => newestF_snoc_other hth'.1 hu)) (by rfl) ?_; rintro _ _ ⟨rfl, rfl⟩))
    | refine swl_nil ?_
    | refine sx_next ?_
    | refine sw_seq ?_
    | refine sw_region ?_
    | refine sw_block ?_
    | refine sx_block_normal ?_
    | refine sw_cond_false (by rfl) ?_
    | refine sw_cond_npos (by rfl) (by first | assumption | omega) ?_
    | refine sw_skip ?_
    | refine swh_lt (by rfl) (fun _ _ => wanted_none) ?_
    | refine swh_hv (by rfl) (fun _ _ => wanted_none) ?_
    | refine swh_nil ?_
    | (apply And.intro; focus ((repeat (first | exact Ent.refl _ | exact Ent.nil | (apply Ent.pick; focus ((repeat (first | exact Rem.here | apply Rem.there)); done)) | apply Ent.drop)); done))
    | (refine sw_region_draw (pt a (.cells #[.slice pb s.blocks.length cb, .slice pp s.pend.length cp, .map (some rn), .map (some rf), .int .i64 (spendN s.budget s.power), .bool (spendP s.budget s.power), .bool s.mounted] 100) :: L) [(0, true), (1, true), (2, true), (3, true), (4, true), (5, true), (6, true), (7, true), (8, true), (9, true), (10, false)] follows ?_ ?_ ?_ ?_; (focus rfl); (focus (decide +kernel)); (focus ((repeat (first | exact Ent.refl _ | exact Ent.nil | (apply Ent.pick; focus ((repeat (first | exact Rem.here | apply Rem.there)); done)) | apply Ent.drop)); done)))
    | fail)
          refine sw_openL L follows (by decide +kernel) (by (repeat (first | exact Ent.refl _ | exact Ent.nil | (apply Ent.pick; focus ((repeat (first | exact Rem.here | apply Rem.there)); done)) | apply Ent.drop))) ?_
          repeat' (first
    | (refine s1_load ?_; refine sc_r (L_load_slcA (by rfl) (by infer_instance) (by omega)) (by rfl) ?_)
    | (refine s1_move ?_; refine sc_r (R_move (by rfl)) (by rfl) ?_)
    | (refine s1_fieldAddr ?_; refine sc_r (R_fieldAddr (by rfl)) (by rfl) ?_)
    | (refine s1_any ?_; first | refine sc_r (R_build_write hth'.1 hlen (by rfl) (by rfl)) (by rfl) ?_ | refine sc_r (R_nilCheck (by rfl)) (by rfl) ?_ | refine sc_r (R_s2ap (by rfl) (by omega)) (by rfl) ?_)
    | (refine swg_take 0 (by decide +kernel) (by rfl) (fun _ _ => wanted_none) ?_)
    | (refine swg_take 1 (by decide +kernel) (by rfl) (fun _ _ => wanted_none) ?_)
    | (refine swg_take 2 (by decide +kernel) (by rfl) (fun _ _ => wanted_none) ?_)
    | (refine swg_take 3 (by decide +kernel) (by rfl) (fun _ _ => wanted_none) ?_)
    | (refine swg_take 5 (by decide +kernel) (by rfl) (fun _ _ => wanted_none) ?_)
    | (refine swg_take 6 (by decide +kernel) (by rfl) (fun _ _ => wanted_none) ?_)
    | (refine swg_take 7 (by decide +kernel) (by rfl) (fun _ _ => wanted_none) ?_)
    | (refine swg_take 8 (by decide +kernel) (by rfl) (fun _ _ => wanted_none) ?_)
    | (refine swg_take 9 (by decide +kernel) (by rfl) (fun _ _ => wanted_none) ?_)
    | fail)
          refine swg_choice (rs := [4, 10]) (by decide +kernel) rfl ?_
          intro j hj
          simp only [List.mem_cons, List.not_mem_nil, or_false] at hj
          rcases hj with rfl | rfl
          · refine swc_op (by rfl) (fun _ _ => wanted_none) ?_
            repeat' (first
    | (refine s1_load ?_; refine sc_r (L_load' (by rfl) (by infer_instance) (by rfl)) (by rfl) ?_)
    | (apply And.intro; focus ((repeat (first | exact Ent.refl _ | exact Ent.nil | (apply Ent.pick; focus ((repeat (first | exact Rem.here | apply Rem.there)); done)) | apply Ent.drop)); done))
    | fail)
            refine swg_order [(10, false), (11, false), (12, true), (13, true), (14, false)] (by rfl) (by decide +kernel) ?_
            repeat' (first
    | refine swl_op ?_
    | (refine s1_fieldAddr ?_; refine sc_r (R_fieldAddr (by rfl)) (by rfl) ?_)
    | (refine s1_assign ?_; refine sc_r (R_assign (by rfl)) (by rfl) ?_)
    | (refine s1_call ?_; (refine sc_w (by rfl) (W_append1S (by rfl) (by rfl) (by focus ((repeat (first | exact Rem.here | apply Rem.there)); done)) (by infer_instance) hws hwo (by omega)) (by rfl) ?_; rintro vv _ rfl; refine ⟨by (repeat (first | exact Ent.refl _ | exact Ent.nil | (apply Ent.pick; focus ((repeat (first | exact Rem.here | apply Rem.there)); done)) | apply Ent.drop)), ?_⟩; refine swh_know (fun h H => vec_fact H) ?_; rintro ⟨pv, cv, rfl, hv⟩))
    | (refine s1_store ?_; (refine sc_w (by rfl) (W_storeL (by rfl) (by rfl) (by infer_instance) (by rfl) (by rfl) (by rfl)) (by rfl) ?_; rintro _ _ ⟨rfl, rfl⟩))
    | (refine s1_any ?_; first | (refine sc_w (by rfl) (W_buildSlice1S (by rfl) hws (by rfl) (by rfl)) (by rfl) ?_; rintro _ _ ⟨_, rfl, rfl⟩) | refine sc_r (R_nilCheck (by rfl)) (by rfl) ?_)
    | refine swl_nil ?_
    | refine sx_next ?_
    | refine sw_seq ?_
    | refine sw_region ?_
    | refine sw_ret ?_
    | refine swh_lt (by rfl) (fun _ _ => wanted_none) ?_
    | refine swh_hv (by rfl) (fun _ _ => wanted_none) ?_
    | refine swh_nil ?_
    | (apply And.intro; focus ((repeat (first | exact Ent.refl _ | exact Ent.nil | (apply Ent.pick; focus ((repeat (first | exact Rem.here | apply Rem.there)); done)) | apply Ent.drop)); done))
    | fail)
            refine sx_ret_of (res1 rfl (ResOne.tmp rfl)) _ ⟨rfl, rfl⟩ (Ent.trans ?_ (dev_close (addS_OK h3 hth hlen) (sb := .slice pb s.blocks.length cb) (sp := .slice pv (s.pend.map wcell ++ [wcell (i.toNat, b)]).length cv) (rn := rn) (rf := rf)))
            rw [show (addS s i b).pend.map wcell = s.pend.map wcell ++ [wcell (i.toNat, b)] by simp [addS]]
            (repeat (first | exact Ent.refl _ | exact Ent.nil | (apply Ent.pick; focus ((repeat (first | exact Rem.here | apply Rem.there)); done)) | apply Ent.drop))
          · refine swc_op (by rfl) (fun _ _ => wanted_none) ?_
            repeat' (first
    | (refine s1_any ?_; (refine sc_w (by rfl) (W_buildSlice1S (by rfl) hws (by rfl) (by rfl)) (by rfl) ?_; rintro _ _ ⟨_, rfl, rfl⟩))
    | (apply And.intro; focus ((repeat (first | exact Ent.refl _ | exact Ent.nil | (apply Ent.pick; focus ((repeat (first | exact Rem.here | apply Rem.there)); done)) | apply Ent.drop)); done))
    | fail)
            refine swg_order [(4, false), (11, false), (12, true), (13, true), (14, false)] (by rfl) (by decide +kernel) ?_
            repeat' (first
    | refine swl_op ?_
    | (refine s1_load ?_; refine sc_r (L_load' (by rfl) (by infer_instance) (by rfl)) (by rfl) ?_)
    | (refine s1_fieldAddr ?_; refine sc_r (R_fieldAddr (by rfl)) (by rfl) ?_)
    | (refine s1_assign ?_; refine sc_r (R_assign (by rfl)) (by rfl) ?_)
    | (refine s1_call ?_; (refine sc_w (by rfl) (W_append1S (by rfl) (by rfl) (by focus ((repeat (first | exact Rem.here | apply Rem.there)); done)) (by infer_instance) hws hwo (by omega)) (by rfl) ?_; rintro vv _ rfl; refine ⟨by (repeat (first | exact Ent.refl _ | exact Ent.nil | (apply Ent.pick; focus ((repeat (first | exact Rem.here | apply Rem.there)); done)) | apply Ent.drop)), ?_⟩; refine swh_know (fun h H => vec_fact H) ?_; rintro ⟨pv, cv, rfl, hv⟩))
    | (refine s1_store ?_; (refine sc_w (by rfl) (W_storeL (by rfl) (by rfl) (by infer_instance) (by rfl) (by rfl) (by rfl)) (by rfl) ?_; rintro _ _ ⟨rfl, rfl⟩))
    | (refine s1_any ?_; refine sc_r (R_nilCheck (by rfl)) (by rfl) ?_)
    | refine swl_nil ?_
    | refine sx_next ?_
    | refine sw_seq ?_
    | refine sw_region ?_
    | refine sw_ret ?_
    | refine swh_lt (by rfl) (fun _ _ => wanted_none) ?_
    | refine swh_hv (by rfl) (fun _ _ => wanted_none) ?_
    | refine swh_nil ?_
    | (apply And.intro; focus ((repeat (first | exact Ent.refl _ | exact Ent.nil | (apply Ent.pick; focus ((repeat (first | exact Rem.here | apply Rem.there)); done)) | apply Ent.drop)); done))
    | fail)
            refine sx_ret_of (res1 rfl (ResOne.tmp rfl)) _ ⟨rfl, rfl⟩ (Ent.trans ?_ (dev_close (addS_OK h3 hth hlen) (sb := .slice pb s.blocks.length cb) (sp := .slice pv (s.pend.map wcell ++ [wcell (i.toNat, b)]).length cv) (rn := rn) (rf := rf)))
            rw [show (addS s i b).pend.map wcell = s.pend.map wcell ++ [wcell (i.toNat, b)] by simp [addS]]
            (repeat (first | exact Ent.refl _ | exact Ent.nil | (apply Ent.pick; focus ((repeat (first | exact Rem.here | apply Rem.there)); done)) | apply Ent.drop))
        · have hE : wrE s i b.length = 9 := by simp [wrE, hth, hlen, spE, h0, h9]
          have hS : wrS s i b = spendS s := by rw [wrS, if_pos ⟨hth, hlen⟩, if_neg (by rw [hE]; decide)]
          rw [hE, hS]
          repeat' (first
    | refine swl_op ?_
    | (refine s1_move ?_; refine sc_r (R_move (by rfl)) (by rfl) ?_)
    | (refine s1_load ?_; refine sc_r (L_load' (by rfl) (by infer_instance) (by rfl)) (by rfl) ?_)
    | (refine s1_fieldAddr ?_; refine sc_r (R_fieldAddr (by rfl)) (by rfl) ?_)
    | (refine s1_assign ?_; refine sc_r (R_assign (by rfl)) (by rfl) ?_)
    | (refine s1_bin ?_; first | refine sc_r (R_neq (by rfl) (by rfl)) (by rfl) ?_ | refine sc_r (R_and (by rfl) (by rfl)) (by rfl) ?_)
    | (refine s1_call ?_; first | (refine sc_c (by rfl) (C_call (by rfl) (by infer_instance) (by rfl) (by rfl) (dev_there' a i _ (by infer_instance) hth)) (by rfl) ?_; rintro _ _ ⟨rfl, rfl⟩) | (refine sc_c (by rfl) (C_call (by rfl) (by infer_instance) (by rfl) (by rfl) (hsp _ _ _ _ _)) (by rfl) ?_; rintro _ _ ⟨rfl, rfl⟩) | refine sc_r (R_len (by rfl)) (by rfl) ?_)
    | (refine s1_any ?_; first | refine sc_r (R_not (by rfl)) (by rfl) ?_ | refine sc_r (R_nilCheck (by rfl)) (by rfl) ?_ | refine sc_r (R_fault (by rfl) (by rfl) (by infer_instance)) (by rfl) ?_)
    | refine swl_nil ?_
    | refine sx_next ?_
    | refine sw_seq ?_
    | refine sw_region ?_
    | refine sw_block ?_
    | refine sx_past_ret ?_
    | refine sx_block_normal ?_
    | refine sw_cond_false (by rfl) ?_
    | refine sw_cond_nneg (by rfl) (by first | assumption | omega) ?_
    | refine sw_ret ?_
    | refine sw_skip ?_
    | fail)
          exact sx_ret_of (res1 rfl (ResOne.tmp rfl)) _ ⟨rfl, rfl⟩ (Ent.trans (by (repeat (first | exact Ent.refl _ | exact Ent.nil | (apply Ent.pick; focus ((repeat (first | exact Rem.here | apply Rem.there)); done)) | apply Ent.drop))) (dev_close (spendS_OK h3)))
      · have hE : wrE s i b.length = spE s := by simp [wrE, hth, hlen, spE, h0]
        have hS : wrS s i b = spendS s := by rw [wrS, if_pos ⟨hth, hlen⟩, if_neg (by rw [hE]; exact h0)]
        rw [hE, hS]
        unfold spE
        repeat' (first
    | refine swl_op ?_
    | (refine s1_move ?_; refine sc_r (R_move (by rfl)) (by rfl) ?_)
    | (refine s1_assign ?_; refine sc_r (R_assign (by rfl)) (by rfl) ?_)
    | (refine s1_bin ?_; refine sc_r (R_neq (by rfl) (by rfl)) (by rfl) ?_)
    | (refine s1_call ?_; first | (refine sc_c (by rfl) (C_call (by rfl) (by infer_instance) (by rfl) (by rfl) (dev_there' a i _ (by infer_instance) hth)) (by rfl) ?_; rintro _ _ ⟨rfl, rfl⟩) | (refine sc_c (by rfl) (C_call (by rfl) (by infer_instance) (by rfl) (by rfl) (hsp _ _ _ _ _)) (by rfl) ?_; rintro _ _ ⟨rfl, rfl⟩) | refine sc_r (R_len (by rfl)) (by rfl) ?_)
    | (refine s1_any ?_; refine sc_r (R_not (by rfl)) (by rfl) ?_)
    | refine swl_nil ?_
    | refine sx_next ?_
    | refine sw_seq ?_
    | refine sw_region ?_
    | refine sw_block ?_
    | refine sx_past_ret ?_
    | refine sx_block_normal ?_
    | refine sw_cond_false (by rfl) ?_
    | refine sw_cond_nneg (by rfl) (by first | assumption | omega) ?_
    | refine sw_ret ?_
    | refine sw_skip ?_
    | fail)
        exact sx_ret_of (res1 rfl (ResOne.tmp rfl)) _ ⟨rfl, rfl⟩ (Ent.trans (by (repeat (first | exact Ent.refl _ | exact Ent.nil | (apply Ent.pick; focus ((repeat (first | exact Rem.here | apply Rem.there)); done)) | apply Ent.drop))) (dev_close (spendS_OK h3)))
    · have hE : wrE s i b.length = 1 := by simp [wrE, hth, hlen, hn]
      have hS : wrS s i b = s := by simp [wrS, hth, hlen, hn]
      rw [hE, hS]
      repeat' (first
    | refine swl_op ?_
    | (refine s1_move ?_; refine sc_r (R_move (by rfl)) (by rfl) ?_)
    | (refine s1_assign ?_; refine sc_r (R_assign (by rfl)) (by rfl) ?_)
    | (refine s1_bin ?_; refine sc_r (R_neq (by rfl) (by rfl)) (by rfl) ?_)
    | (refine s1_call ?_; first | (refine sc_c (by rfl) (C_call (by rfl) (by infer_instance) (by rfl) (by rfl) (dev_there' a i _ (by infer_instance) hth)) (by rfl) ?_; rintro _ _ ⟨rfl, rfl⟩) | refine sc_r (R_len (by rfl)) (by rfl) ?_)
    | (refine s1_any ?_; refine sc_r (R_not (by rfl)) (by rfl) ?_)
    | refine swl_nil ?_
    | refine sx_next ?_
    | refine sw_seq ?_
    | refine sw_region ?_
    | refine sw_block ?_
    | refine sx_past_ret ?_
    | refine sx_block_ret ?_
    | refine sw_cond_false (by rfl) ?_
    | refine sw_cond_nneg (by rfl) (by first | assumption | omega) ?_
    | refine sw_ret ?_
    | fail)
      exact sx_ret_of (res1 rfl (ResOne.tmp rfl)) _ ⟨rfl, rfl⟩ (Ent.trans (by (repeat (first | exact Ent.refl _ | exact Ent.nil | (apply Ent.pick; focus ((repeat (first | exact Rem.here | apply Rem.there)); done)) | apply Ent.drop))) (dev_close h3))
end Go.Proofs.YtjdnflhejfcgdaaDoor

/-
  Steps on a device; several devices.
-/
namespace Go.SL
open Go
theorem Ent.st_split {A B F : List HP} : Ent (st (A ++ B) :: F) (st A :: st B :: F) := by
  refine Ent.open_st.trans ?_
  rw [List.append_assoc]
  exact Ent.shut_st.trans (Ent.cons Ent.shut_st)
theorem Ent.st_join {A B F : List HP} : Ent (st A :: st B :: F) (st (A ++ B) :: F) := by
  refine Ent.trans ?_ Ent.shut_st
  rw [List.append_assoc]
  refine Ent.trans (Ent.cons Ent.open_st) ?_
  refine Ent.trans Ent.open_st (Ent.refl _)
end Go.SL
namespace Go.Proofs.YtjdnflhejfcgdaaDoor
open Go Go.SL Go.Proofs

/-- devices -/
def devsP (l : List (Nat × DevS)) : HP := st (l.map fun x => devP x.1 x.2)
theorem devs_cut (l : List (Nat × DevS)) (i : Nat) (h : i < l.length) {F : List HP} : Ent (devsP l :: F) (devP l[i].1 l[i].2 :: devsP (l.take i) :: devsP (l.drop (i + 1)) :: F) := by
  have e : l.map (fun x => devP x.1 x.2) = (l.take i).map (fun x => devP x.1 x.2) ++ (devP l[i].1 l[i].2 :: (l.drop (i + 1)).map fun x => devP x.1 x.2) := by
    have e0 : l = l.take i ++ l[i] :: l.drop (i + 1) := by rw [← List.drop_eq_getElem_cons h, List.take_append_drop]
    exact (congrArg (List.map fun x : Nat × DevS => devP x.1 x.2) e0).trans (by rw [List.map_append, List.map_cons])
  unfold devsP
  rw [e]
  refine Ent.st_split.trans ?_
  refine Ent.trans (Ent.cons (Ent.open_st.trans (Ent.cons Ent.shut_st))) ?_
  exact Ent.of_perm (List.Perm.swap _ _ _)
theorem devs_put (l : List (Nat × DevS)) (i : Nat) (h : i < l.length) (s : DevS) {F : List HP} : Ent (devP l[i].1 s :: devsP (l.take i) :: devsP (l.drop (i + 1)) :: F) (devsP (l.set i (l[i].1, s)) :: F) := by
  have e : (l.set i (l[i].1, s)).map (fun x => devP x.1 x.2) = (l.take i).map (fun x => devP x.1 x.2) ++ (devP l[i].1 s :: (l.drop (i + 1)).map fun x => devP x.1 x.2) := by
    rw [List.set_eq_take_append_cons_drop, if_pos h]; simp
  unfold devsP
  rw [e]
  refine Ent.trans ?_ Ent.st_join
  refine Ent.trans ?_ (Ent.cons (Ent.shut_st (A := devP l[i].1 s :: (l.drop (i + 1)).map fun x => devP x.1 x.2)))
  refine Ent.trans (Ent.of_perm (List.Perm.swap _ _ _)) ?_
  exact Ent.cons (Ent.cons Ent.open_st)
theorem devs_same (l : List (Nat × DevS)) (i : Nat) (h : i < l.length) {F : List HP} : Ent (devP l[i].1 l[i].2 :: devsP (l.take i) :: devsP (l.drop (i + 1)) :: F) (devsP l :: F) := by
  have := devs_put l i h l[i].2 (F := F)
  rwa [show l.set i (l[i].1, l[i].2) = l from List.set_getElem_self h] at this
theorem devs_nil {F : List HP} : Ent F (devsP [] :: F) := by
  unfold devsP
  exact Ent.shut_st (A := [])
theorem devs_snoc (l : List (Nat × DevS)) (a : Nat) (s : DevS) {F : List HP} : Ent (devP a s :: devsP l :: F) (devsP (l ++ [(a, s)]) :: F) := by
  unfold devsP
  rw [List.map_append]
  refine Ent.trans ?_ Ent.st_join
  refine Ent.trans (Ent.of_perm (List.Perm.swap _ _ _)) ?_
  exact Ent.cons (Ent.shut_st (A := [devP a s]))

/-- a step on the device a, over what else is there -/
def FnOK (f : Value) (a : Nat) (F : List HP) (s s1 : DevS) (e : Int) : Prop :=
  ∃ fid fi ca, f = .func (.func fid) fi ca ∧ CallC Tryd.prog fid ∧ Tr Tryd.prog fid (fi.toList ++ [] ++ ca.toList).toArray (devP a s :: F) (fun v L' => v = .int .i64 e ∧ L' = devP a s1 :: F)
inductive StepsOK (a : Nat) (F : List HP) : List Value → DevS → DevS → Int → Prop
  | nil {s : DevS} : StepsOK a F [] s s 0
  | stop {f : Value} {r : List Value} {s s1 : DevS} {e : Int} (h : FnOK f a F s s1 e) (he : e ≠ 0) : StepsOK a F (f :: r) s s1 e
  | next {f : Value} {r : List Value} {s s1 s2 : DevS} {e : Int} (h : FnOK f a F s s1 0) (k : StepsOK a F r s1 s2 e) : StepsOK a F (f :: r) s s2 e

theorem medium_steps (a : Nat) (fs : List Value) {F : List HP} {s s2 : DevS} {e : Int} (hs : StepsOK a F fs s s2 e) {p : Option Addr} {n c : Nat} {els : List (Array Value)} (hl : SlC F p 1 n c els) (he : els = fs.map fun f => #[f]) :
    Tr Tryd.prog 48 [.slice p n c].toArray (devP a s :: F) (fun v L' => v = .int .i64 e ∧ L' = devP a s2 :: F) := by
  subst he
  have hlen : fs.length = n := by simpa using hl.len
  have hbd := hl.bd
  refine tr_enter Tryd.func48 rfl Tryd.ntmps48 rfl fun w0 => ?_
  repeat' (first
    | refine swl_op ?_
    | (refine s1_move ?_; refine sc_r (R_move (by rfl)) (by rfl) ?_)
    | (refine s1_assign ?_; refine sc_r (R_assign (by rfl)) (by rfl) ?_)
    | (refine s1_call ?_; refine sc_r (R_len (by rfl)) (by rfl) ?_)
    | refine swl_nil ?_
    | refine sx_next ?_
    | refine sw_seq ?_
    | refine sw_region ?_
    | refine sw_block ?_
    | fail)
  refine sw_loop (γ := Nat × DevS) (fun g => n - g.1) (fun g => [(6, .slice p n c), (7, .int .i64 n), (8, .int .i64 g.1)]) (fun g => devP a g.2 :: F) (fun g => g.1 ≤ n ∧ StepsOK a F (fs.drop g.1) g.2 s2 e) (0, s) ⟨by simp, by simpa using hs⟩
    (subE.cons rfl (subE.cons rfl (subE.cons rfl subE.nil))) (by (repeat (first | exact Ent.refl _ | exact Ent.nil | (apply Ent.pick; focus ((repeat (first | exact Rem.here | apply Rem.there)); done)) | apply Ent.drop))) ?_
  rintro ⟨g, s1⟩ ⟨hg, hst⟩
  dsimp only at hg hst ⊢
  by_cases hlt : g < n
  · obtain ⟨b1, o1, rfl⟩ := hl.ptr (by omega)
    have hl1 : g < fs.length := by omega
    rw [List.drop_eq_getElem_cons hl1] at hst
    have he1 : (fs.map fun f => #[f]).getD g #[] = #[fs[g]] := by simp [hl1]
    generalize fs[g] = f at *
    cases hst with
    | stop h hne =>
      obtain ⟨fid, fi, ca, rfl, hc, ht⟩ := h
      repeat' (first
    | refine swl_op ?_
    | (refine s1_move ?_; refine sc_r (R_move (by rfl)) (by rfl) ?_)
    | (refine s1_load ?_; refine sc_r (L_load_el1 (by rfl) (by infer_instance) (by omega) (by first | assumption | rfl)) (by rfl) ?_)
    | (refine s1_assign ?_; refine sc_r (R_assign (by rfl)) (by rfl) ?_)
    | (refine s1_bin ?_; first | refine sc_r (R_lss (by rfl) (by rfl)) (by rfl) ?_ | refine sc_r (R_neq (by rfl) (by rfl)) (by rfl) ?_)
    | (refine s1_call ?_; (refine sc_c (by rfl) (C_call (by rfl) hc (by rfl) (by rfl) ht) (by rfl) ?_; rintro _ _ ⟨rfl, rfl⟩))
    | (refine s1_indexAddr ?_; refine sc_r (R_indexAddr (by rfl) (by rfl) (by omega)) (by rfl) ?_)
    | refine swl_nil ?_
    | refine sx_next ?_
    | refine sw_seq ?_
    | refine sw_region ?_
    | refine sw_block ?_
    | refine sx_past_ret ?_
    | refine sx_block_ret ?_
    | refine sw_cond_pos (by rfl) (by first | assumption | omega) ?_
    | refine sw_cond_nneg (by rfl) (by first | assumption | omega) ?_
    | refine sw_ret ?_
    | refine sw_skip ?_
    | fail)
      exact sx_ret_of (res1 rfl (ResOne.tmp rfl)) _ ⟨rfl, rfl⟩ (by (repeat (first | exact Ent.refl _ | exact Ent.nil | (apply Ent.pick; focus ((repeat (first | exact Rem.here | apply Rem.there)); done)) | apply Ent.drop)))
    | next h hr =>
      obtain ⟨fid, fi, ca, rfl, hc, ht⟩ := h
      repeat' (first
    | refine swl_op ?_
    | (refine s1_move ?_; refine sc_r (R_move (by rfl)) (by rfl) ?_)
    | (refine s1_load ?_; refine sc_r (L_load_el1 (by rfl) (by infer_instance) (by omega) (by first | assumption | rfl)) (by rfl) ?_)
    | (refine s1_assign ?_; refine sc_r (R_assign (by rfl)) (by rfl) ?_)
    | (refine s1_bin ?_; first | refine sc_r (R_lss (by rfl) (by rfl)) (by rfl) ?_ | refine sc_r (R_add64 (by rfl) (by rfl) (by omega)) (by rfl) ?_ | refine sc_r (R_neq (by rfl) (by rfl)) (by rfl) ?_)
    | (refine s1_call ?_; (refine sc_c (by rfl) (C_call (by rfl) hc (by rfl) (by rfl) ht) (by rfl) ?_; rintro _ _ ⟨rfl, rfl⟩))
    | (refine s1_indexAddr ?_; refine sc_r (R_indexAddr (by rfl) (by rfl) (by omega)) (by rfl) ?_)
    | refine swl_nil ?_
    | refine sx_next ?_
    | refine sw_seq ?_
    | refine sw_region ?_
    | refine sw_block ?_
    | refine sx_block_normal ?_
    | refine sw_cond_false (by rfl) ?_
    | refine sw_cond_pos (by rfl) (by first | assumption | omega) ?_
    | refine sw_skip ?_
    | fail)
      exact sx_back (g + 1, _) (by simp only; omega) ⟨by simp only; omega, hr⟩ (subE.cons rfl (subE.cons rfl (subE.cons rfl subE.nil))) (by (repeat (first | exact Ent.refl _ | exact Ent.nil | (apply Ent.pick; focus ((repeat (first | exact Rem.here | apply Rem.there)); done)) | apply Ent.drop)))
  · rw [List.drop_of_length_le (by omega)] at hst
    cases hst
    repeat' (first
    | refine swl_op ?_
    | (refine s1_assign ?_; refine sc_r (R_assign (by rfl)) (by rfl) ?_)
    | (refine s1_bin ?_; refine sc_r (R_lss (by rfl) (by rfl)) (by rfl) ?_)
    | refine swl_nil ?_
    | refine sx_next ?_
    | refine sw_seq ?_
    | refine sw_region ?_
    | refine sx_past_exit ?_
    | refine sx_block_here ?_
    | refine sw_cond_neg (by rfl) (by first | assumption | omega) ?_
    | refine sw_ret ?_
    | refine sw_exit ?_
    | fail)
    exact sx_ret_of (res1 rfl (ResOne.tmp rfl)) _ ⟨rfl, rfl⟩ (by (repeat (first | exact Ent.refl _ | exact Ent.nil | (apply Ent.pick; focus ((repeat (first | exact Rem.here | apply Rem.there)); done)) | apply Ent.drop)))

theorem medium_writing (d i b : Value) (h1 : d.oneCell' = true) (h2 : i.oneCell' = true) (h3 : b.oneCell' = true) {L : List HP} : Tr Tryd.prog 50 [d, i, b].toArray L
    (fun v L' => ∃ x y z, v = .func (.func 87) #[] #[.pointer (some ⟨x, 0, none⟩), .pointer (some ⟨y, 0, none⟩), .pointer (some ⟨z, 0, none⟩)] ∧ L' = pt z (.cells #[b] 22) :: pt y (.cells #[i] 3) :: pt x (.cells #[d] 58) :: L) := by
  refine tr_enter Tryd.func50 rfl Tryd.ntmps50 rfl fun w0 => ?_
  repeat' (first
    | (refine s1_box ?_; refine sc_w (by rfl) (W_box1 (by rfl) h1) (by rfl) ?_; rintro _ _ ⟨_, rfl, rfl⟩)
    | (refine s1_box ?_; refine sc_w (by rfl) (W_box1 (by rfl) h2) (by rfl) ?_; rintro _ _ ⟨_, rfl, rfl⟩)
    | (refine s1_box ?_; refine sc_w (by rfl) (W_box1 (by rfl) h3) (by rfl) ?_; rintro _ _ ⟨_, rfl, rfl⟩)
    | refine swl_op ?_
    | (refine s1_assign ?_; refine sc_r (R_assign (by rfl)) (by rfl) ?_)
    | (refine s1_any ?_; refine sc_r (R_makeFunc (by rfl) (by rfl)) (by rfl) ?_)
    | refine swl_nil ?_
    | refine sx_next ?_
    | refine sw_seq ?_
    | refine sw_region ?_
    | refine sw_ret ?_
    | fail)
  exact sx_ret_of (res1 rfl (ResOne.tmp rfl)) _ ⟨_, _, _, rfl, rfl⟩ (by (repeat (first | exact Ent.refl _ | exact Ent.nil | (apply Ent.pick; focus ((repeat (first | exact Rem.here | apply Rem.there)); done)) | apply Ent.drop)))
theorem medium_writing1 (a : Nat) (s : DevS) (i : Int) (b : List Int) (hpn : s.pend.length ≤ 1000000000) (x y z : Nat) {p : Option Addr} {n c : Nat} {T1 T2 T3 : TypeId} {F : List HP} (hx : ReadC F x (.cells #[.pointer (some ⟨a, 0, none⟩)] T1)) (hy : ReadC F y (.cells #[.int .i64 i] T2)) (hz : ReadC F z (.cells #[.slice p n c] T3)) (hb : SlC F p 1 n c (b.map u8c)) :
    Tr Tryd.prog 87 [.pointer (some ⟨x, 0, none⟩), .pointer (some ⟨y, 0, none⟩), .pointer (some ⟨z, 0, none⟩)].toArray (devP a s :: F) (fun v L' => v = .int .i64 (wrE s i b.length) ∧ L' = devP a (wrS s i b) :: F) := by
  refine tr_enter Tryd.func87 rfl Tryd.ntmps87 rfl fun w0 => ?_
  repeat' (first
    | refine swl_op ?_
    | (refine s1_load ?_; refine sc_r (L_load' (by rfl) (by infer_instance) (by rfl)) (by rfl) ?_)
    | (refine s1_assign ?_; refine sc_r (R_assign (by rfl)) (by rfl) ?_)
    | (refine s1_call ?_; (refine sc_c (by rfl) (C_call (by rfl) (by infer_instance) (by rfl) (by rfl) (dev_Write a s i b hpn hb)) (by rfl) ?_; rintro _ _ ⟨rfl, rfl⟩))
    | refine swl_nil ?_
    | refine sx_next ?_
    | refine sw_seq ?_
    | refine sw_region ?_
    | refine sw_ret ?_
    | fail)
  exact sx_ret_of (res1 rfl (ResOne.tmp rfl)) _ ⟨rfl, rfl⟩ (by (repeat (first | exact Ent.refl _ | exact Ent.nil | (apply Ent.pick; focus ((repeat (first | exact Rem.here | apply Rem.there)); done)) | apply Ent.drop)))
end Go.Proofs.YtjdnflhejfcgdaaDoor

/-
  Geometries and addresses.
-/
namespace Go.Proofs.YtjdnflhejfcgdaaDoor
open Go Go.SL Go.Proofs

structure Geo where
  disk : Int
  lines : Int
  vols : Int
  segs : Int
  deriving DecidableEq
def Geo.cells (g : Geo) : Array Value := #[.int .i64 g.disk, .int .i64 g.lines, .int .i64 g.vols, .int .i64 g.segs]
structure Place where
  vol : Int
  seg : Int
  off : Int
  deriving DecidableEq
def Place.cells (g : Place) : Array Value := #[.int .i64 g.vol, .int .i64 g.seg, .int .i64 g.off]

def mayG (g : Geo) : Bool := decide (8 ≤ g.disk ∧ g.disk ≤ 256 ∧ 1 ≤ g.lines ∧ g.lines ≤ g.disk - 6 ∧ 0 ≤ g.vols ∧ g.vols ≤ 8 ∧ 1 ≤ g.segs ∧ g.segs ≤ 256)
theorem mayG_is {g : Geo} (h : mayG g = true) : 8 ≤ g.disk ∧ g.disk ≤ 256 ∧ 1 ≤ g.lines ∧ g.lines ≤ g.disk - 6 ∧ 0 ≤ g.vols ∧ g.vols ≤ 8 ∧ 1 ≤ g.segs ∧ g.segs ≤ 256 := by
  simpa [mayG] using h
theorem vs_bd {g : Geo} (h : mayG g = true) : 0 ≤ g.vols * g.segs ∧ g.vols * g.segs ≤ 2048 := by
  have := mayG_is h
  exact ⟨Int.mul_nonneg (by omega) (by omega), Int.mul_le_mul (show g.vols ≤ 8 by omega) (show g.segs ≤ 256 by omega) (by omega) (by omega)⟩

theorem addr_between (lo hi : Int) {L : List HP} : Tr Tryd.prog 79 [.int .i64 lo, .int .i64 hi].toArray L
    (fun v L' => ∃ b c, v = .func (.func 101) #[] #[.pointer (some ⟨b, 0, none⟩), .pointer (some ⟨c, 0, none⟩)] ∧ L' = pt c (.cells #[.int .i64 hi] 3) :: pt b (.cells #[.int .i64 lo] 3) :: L) := by
  refine tr_enter Tryd.func79 rfl Tryd.ntmps79 rfl fun w0 => ?_
  repeat' (first
    | refine swl_op ?_
    | (refine s1_assign ?_; refine sc_r (R_assign (by rfl)) (by rfl) ?_)
    | (refine s1_box ?_; (refine sc_w (by rfl) (W_box1 (by rfl) (by rfl)) (by rfl) ?_; rintro _ _ ⟨_, rfl, rfl⟩))
    | (refine s1_any ?_; refine sc_r (R_makeFunc (by rfl) (by rfl)) (by rfl) ?_)
    | refine swl_nil ?_
    | refine sx_next ?_
    | refine sw_seq ?_
    | refine sw_region ?_
    | refine sw_ret ?_
    | fail)
  exact sx_ret_of (res1 rfl (ResOne.tmp rfl)) _ ⟨_, _, rfl, rfl⟩ (by (repeat (first | exact Ent.refl _ | exact Ent.nil | (apply Ent.pick; focus ((repeat (first | exact Rem.here | apply Rem.there)); done)) | apply Ent.drop)))
theorem addr_between1 (n lo hi : Int) (b c : Nat) {T T' : TypeId} {L : List HP} (hb : ReadC L b (.cells #[.int .i64 lo] T)) (hc : ReadC L c (.cells #[.int .i64 hi] T')) :
    Tr Tryd.prog 101 [.int .i64 n, .pointer (some ⟨b, 0, none⟩), .pointer (some ⟨c, 0, none⟩)].toArray L (fun v L' => v = .bool (decide (lo ≤ n ∧ n ≤ hi)) ∧ L = L') := by
  refine tr_enter Tryd.func101 rfl Tryd.ntmps101 rfl fun w0 => ?_
  repeat' (first
    | refine swl_op ?_
    | (refine s1_move ?_; refine sc_r (R_move (by rfl)) (by rfl) ?_)
    | (refine s1_load ?_; refine sc_r (L_load' (by rfl) (by infer_instance) (by rfl)) (by rfl) ?_)
    | (refine s1_assign ?_; refine sc_r (R_assign (by rfl)) (by rfl) ?_)
    | (refine s1_pick ?_; first | refine sc_r (R_pick_t (by rfl) (by rfl)) (by rfl) ?_ | refine sc_r (R_pick_f (by rfl) (by rfl)) (by rfl) ?_)
    | (refine s1_bin ?_; first | refine sc_r (R_leq (by rfl) (by rfl)) (by rfl) ?_ | refine sc_r (R_geq (by rfl) (by rfl)) (by rfl) ?_)
    | refine swl_nil ?_
    | refine sx_next ?_
    | refine sw_seq ?_
    | refine sw_region ?_
    | refine swl_g_on (by rfl) (by rfl) ?_
    | refine swl_g_off (by rfl) (by rfl) (by rfl) (by rfl) ?_
    | refine swl_g_dec (by rfl) (by rfl) (fun hp => ?_) (fun hp => ?_)
    | refine sw_ret ?_
    | fail)
  all_goals refine sx_ret_of (res1 rfl (ResOne.tmp rfl)) L ⟨?_, rfl⟩ (by (repeat (first | exact Ent.refl _ | exact Ent.nil | (apply Ent.pick; focus ((repeat (first | exact Rem.here | apply Rem.there)); done)) | apply Ent.drop)))
  all_goals (congr 1; simp; omega)
theorem addr_between1' (n lo hi : Int) (b c : Nat) {T T' : TypeId} {L : List HP} (hb : ReadC L b (.cells #[.int .i64 lo] T)) (hc : ReadC L c (.cells #[.int .i64 hi] T')) (t : Bool) (h : decide (lo ≤ n ∧ n ≤ hi) = t) :
    Tr Tryd.prog 101 [.int .i64 n, .pointer (some ⟨b, 0, none⟩), .pointer (some ⟨c, 0, none⟩)].toArray L (fun v L' => v = .bool t ∧ L = L') := h ▸ addr_between1 n lo hi b c hb hc

theorem addr_May (g : Geo) {L : List HP} : Tr Tryd.prog 36 [.agg g.cells].toArray L (fun v L' => v = .bool (mayG g) ∧ L = L') := by
  refine tr_enter Tryd.func36 rfl Tryd.ntmps36 rfl fun w0 => ?_
  unfold Geo.cells
  repeat' (first
    | refine swl_op ?_
    | (refine s1_move ?_; refine sc_r (R_move (by rfl)) (by rfl) ?_)
    | (refine s1_load ?_; refine sc_r (L_load' (by rfl) (by infer_instance) (by rfl)) (by rfl) ?_)
    | (refine s1_fieldAddr ?_; refine sc_r (R_fieldAddr (by rfl)) (by rfl) ?_)
    | (refine s1_assign ?_; refine sc_r (R_assign (by rfl)) (by rfl) ?_)
    | (refine s1_pick ?_; first | refine sc_r (R_pick_t (by rfl) (by rfl)) (by rfl) ?_ | refine sc_r (R_pick_f (by rfl) (by rfl)) (by rfl) ?_)
    | (refine s1_bin ?_; refine sc_r (R_sub64 (by rfl) (by rfl) (by omega)) (by rfl) ?_)
    | (refine s1_call ?_; first | (refine sc_c (by rfl) (C_call (by rfl) (by infer_instance) (by rfl) (by rfl) (addr_between1 _ _ _ _ _ (by infer_instance) (by infer_instance))) (by rfl) ?_; rintro _ _ ⟨rfl, rfl⟩) | (refine sc_c (by rfl) (C_call (by rfl) (by infer_instance) (by rfl) (by rfl) (addr_between _ _)) (by rfl) ?_; rintro _ _ ⟨_, _, rfl, rfl⟩))
    | (refine s1_box ?_; (refine sc_w (by rfl) (W_boxA (by rfl)) (by rfl) ?_; rintro _ _ ⟨_, rfl, rfl⟩))
    | (refine s1_any ?_; refine sc_r (R_not (by rfl)) (by rfl) ?_)
    | refine swl_nil ?_
    | refine sx_next ?_
    | refine sw_seq ?_
    | refine sw_region ?_
    | refine swl_g_on (by rfl) (by rfl) ?_
    | refine swl_g_off (by rfl) (by rfl) (by rfl) (by rfl) ?_
    | refine swl_g_ndec (by rfl) (by rfl) (fun hp => ?_) (fun hp => ?_)
    | refine sx_past_ret ?_
    | refine sw_cond_true (by rfl) ?_
    | refine sw_cond_not (by rfl) (fun hp => ?_) (fun hp => ?_)
    | refine sw_ret ?_
    | refine sw_skip ?_
    | fail)
  all_goals refine sx_ret_of (res1 rfl (ResOne.tmp rfl)) L ⟨?_, rfl⟩ (by (repeat (first | exact Ent.refl _ | exact Ent.nil | (apply Ent.pick; focus ((repeat (first | exact Rem.here | apply Rem.there)); done)) | apply Ent.drop)))
  all_goals (refine congrArg Value.bool ?_; simp only [mayG]; grind)
theorem addr_May' (g : Geo) (b : Bool) (h : mayG g = b) {L : List HP} : Tr Tryd.prog 36 [.agg g.cells].toArray L (fun v L' => v = .bool b ∧ L = L') := h ▸ addr_May g

def segsG (g : Geo) : Int := if mayG g then g.disk + g.vols * g.segs else 0
def blocksG (g : Geo) : Int := segsG g * 16
def segOf (g : Geo) (a : Int) : Int × Int := if mayG g then (if 1 ≤ a ∧ a ≤ blocksG g then ((a - 1) / 16, 0) else (0, 4)) else (0, 1)
def firstOf (g : Geo) (s : Int) : Int × Int := if mayG g then (if 0 ≤ s ∧ s ≤ segsG g - 1 then (s * 16 + 1, 0) else (0, 4)) else (0, 1)
def tierOf (g : Geo) (a : Int) : Int := if (segOf g a).2 = 0 then (if (segOf g a).1 < g.disk - g.lines then 0 else if (segOf g a).1 < g.disk then 1 else 2) else -1
def whereOf (g : Geo) (a : Int) : Place × Int := if (segOf g a).2 = 0 then (if (segOf g a).1 < g.disk then (⟨-1, (segOf g a).1, (a - 1) % 16⟩, 0) else (⟨((segOf g a).1 - g.disk) / g.segs, ((segOf g a).1 - g.disk) % g.segs, (a - 1) % 16⟩, 0)) else (⟨0, 0, 0⟩, (segOf g a).2)
theorem segsG_bd (g : Geo) : 0 ≤ segsG g ∧ segsG g ≤ 2304 := by
  unfold segsG
  split
  · have h := mayG_is ‹_›; have := vs_bd ‹_›; omega
  · omega
theorem blocksG_bd (g : Geo) : 0 ≤ blocksG g ∧ blocksG g ≤ 36864 := by have := segsG_bd g; unfold blocksG; omega

theorem addr_Segments (g : Geo) {L : List HP} : Tr Tryd.prog 96 [.agg g.cells].toArray L (fun v L' => v = .int .i64 (segsG g) ∧ L = L') := by
  refine tr_enter Tryd.func96 rfl Tryd.ntmps96 rfl fun w0 => ?_
  unfold segsG
  cases hm : mayG g
  · repeat' (first
    | refine swl_op ?_
    | (refine s1_load ?_; refine sc_r (L_load_all (by rfl) (by infer_instance) (by rfl)) (by rfl) ?_)
    | (refine s1_assign ?_; refine sc_r (R_assign (by rfl)) (by rfl) ?_)
    | (refine s1_call ?_; (refine sc_c (by rfl) (C_call (by rfl) (by infer_instance) (by rfl) (by rfl) (addr_May' g _ hm)) (by rfl) ?_; rintro _ _ ⟨rfl, rfl⟩))
    | (refine s1_box ?_; (refine sc_w (by rfl) (W_boxA (by rfl)) (by rfl) ?_; rintro _ _ ⟨_, rfl, rfl⟩))
    | (refine s1_any ?_; refine sc_r (R_not (by rfl)) (by rfl) ?_)
    | refine swl_nil ?_
    | refine sx_next ?_
    | refine sw_seq ?_
    | refine sw_region ?_
    | refine sx_past_ret ?_
    | refine sw_cond_true (by rfl) ?_
    | refine sw_ret ?_
    | fail)
    exact sx_ret_of (res1 rfl (ResOne.tmp rfl)) L ⟨rfl, rfl⟩ (by (repeat (first | exact Ent.refl _ | exact Ent.nil | (apply Ent.pick; focus ((repeat (first | exact Rem.here | apply Rem.there)); done)) | apply Ent.drop)))
  · have h1 := mayG_is hm
    have h2 := vs_bd hm
    have h3 : -9223372036854775808 ≤ g.vols * g.segs ∧ g.vols * g.segs ≤ 9223372036854775807 := by omega
    have hM := fun (L : List HP) => addr_May' g _ hm (L := L)
    unfold Geo.cells at *
    repeat' (first
    | refine swl_op ?_
    | (refine s1_load ?_; first | refine sc_r (L_load' (by rfl) (by infer_instance) (by rfl)) (by rfl) ?_ | refine sc_r (L_load_all (by rfl) (by infer_instance) (by rfl)) (by rfl) ?_)
    | (refine s1_fieldAddr ?_; refine sc_r (R_fieldAddr (by rfl)) (by rfl) ?_)
    | (refine s1_assign ?_; refine sc_r (R_assign (by rfl)) (by rfl) ?_)
    | (refine s1_bin ?_; first | refine sc_r (R_add64 (by rfl) (by rfl) (by omega)) (by rfl) ?_ | refine sc_r (R_mul64 (by rfl) (by rfl) (by first | assumption | omega)) (by rfl) ?_)
    | (refine s1_call ?_; (refine sc_c (by rfl) (C_call (by rfl) (by infer_instance) (by rfl) (by rfl) (hM _)) (by rfl) ?_; rintro _ _ ⟨rfl, rfl⟩))
    | (refine s1_box ?_; (refine sc_w (by rfl) (W_boxA (by rfl)) (by rfl) ?_; rintro _ _ ⟨_, rfl, rfl⟩))
    | (refine s1_any ?_; refine sc_r (R_not (by rfl)) (by rfl) ?_)
    | refine swl_nil ?_
    | refine sx_next ?_
    | refine sw_seq ?_
    | refine sw_region ?_
    | refine sw_cond_false (by rfl) ?_
    | refine sw_ret ?_
    | refine sw_skip ?_
    | fail)
    exact sx_ret_of (res1 rfl (ResOne.tmp rfl)) L ⟨rfl, rfl⟩ (by (repeat (first | exact Ent.refl _ | exact Ent.nil | (apply Ent.pick; focus ((repeat (first | exact Rem.here | apply Rem.there)); done)) | apply Ent.drop)))
theorem addr_Blocks (g : Geo) {L : List HP} : Tr Tryd.prog 80 [.agg g.cells].toArray L (fun v L' => v = .int .i64 (blocksG g) ∧ L = L') := by
  refine tr_enter Tryd.func80 rfl Tryd.ntmps80 rfl fun w0 => ?_
  have h1 := segsG_bd g
  repeat' (first
    | refine swl_op ?_
    | (refine s1_load ?_; refine sc_r (L_load_all (by rfl) (by infer_instance) (by rfl)) (by rfl) ?_)
    | (refine s1_assign ?_; refine sc_r (R_assign (by rfl)) (by rfl) ?_)
    | (refine s1_bin ?_; refine sc_r (R_mul64 (by rfl) (by rfl) (by first | assumption | omega)) (by rfl) ?_)
    | (refine s1_call ?_; (refine sc_c (by rfl) (C_call (by rfl) (by infer_instance) (by rfl) (by rfl) (addr_Segments g)) (by rfl) ?_; rintro _ _ ⟨rfl, rfl⟩))
    | (refine s1_box ?_; (refine sc_w (by rfl) (W_boxA (by rfl)) (by rfl) ?_; rintro _ _ ⟨_, rfl, rfl⟩))
    | refine swl_nil ?_
    | refine sx_next ?_
    | refine sw_seq ?_
    | refine sw_region ?_
    | refine sw_ret ?_
    | fail)
  exact sx_ret_of (res1 rfl (ResOne.tmp rfl)) L ⟨rfl, rfl⟩ (by (repeat (first | exact Ent.refl _ | exact Ent.nil | (apply Ent.pick; focus ((repeat (first | exact Rem.here | apply Rem.there)); done)) | apply Ent.drop)))
theorem addr_Segment (g : Geo) (a : Int) {L : List HP} : Tr Tryd.prog 41 [.agg g.cells, .int .i64 a].toArray L (fun v L' => v = .tuple #[.int .i64 (segOf g a).1, .int .i64 (segOf g a).2] ∧ L = L') := by
  refine tr_enter Tryd.func41 rfl Tryd.ntmps41 rfl fun w0 => ?_
  unfold segOf
  have h1 := blocksG_bd g
  cases hm : mayG g
  · repeat' (first
    | refine swl_op ?_
    | (refine s1_load ?_; refine sc_r (L_load_all (by rfl) (by infer_instance) (by rfl)) (by rfl) ?_)
    | (refine s1_assign ?_; refine sc_r (R_assign (by rfl)) (by rfl) ?_)
    | (refine s1_call ?_; (refine sc_c (by rfl) (C_call (by rfl) (by infer_instance) (by rfl) (by rfl) (addr_May' g _ hm)) (by rfl) ?_; rintro _ _ ⟨rfl, rfl⟩))
    | (refine s1_box ?_; (refine sc_w (by rfl) (W_boxA (by rfl)) (by rfl) ?_; rintro _ _ ⟨_, rfl, rfl⟩))
    | (refine s1_any ?_; refine sc_r (R_not (by rfl)) (by rfl) ?_)
    | refine swl_nil ?_
    | refine sx_next ?_
    | refine sw_seq ?_
    | refine sw_region ?_
    | refine sx_past_ret ?_
    | refine sw_cond_true (by rfl) ?_
    | refine sw_ret ?_
    | fail)
    exact sx_ret_of (res2 rfl (ResOne.tmp rfl) (ResOne.tmp rfl)) L ⟨rfl, rfl⟩ (by (repeat (first | exact Ent.refl _ | exact Ent.nil | (apply Ent.pick; focus ((repeat (first | exact Rem.here | apply Rem.there)); done)) | apply Ent.drop)))
  · repeat' (first
    | refine swl_op ?_
    | (refine s1_move ?_; refine sc_r (R_move (by rfl)) (by rfl) ?_)
    | (refine s1_load ?_; refine sc_r (L_load_all (by rfl) (by infer_instance) (by rfl)) (by rfl) ?_)
    | (refine s1_assign ?_; refine sc_r (R_assign (by rfl)) (by rfl) ?_)
    | (refine s1_bin ?_; first | refine sc_r (R_sub64 (by rfl) (by rfl) (by omega)) (by rfl) ?_ | refine sc_r (R_quo64 (by rfl) (by rfl) (by omega)) (by rfl) ?_)
    | (refine s1_call ?_; first | (refine sc_c (by rfl) (C_call (by rfl) (by infer_instance) (by rfl) (by rfl) (addr_May' g _ hm)) (by rfl) ?_; rintro _ _ ⟨rfl, rfl⟩) | (refine sc_c (by rfl) (C_call (by rfl) (by infer_instance) (by rfl) (by rfl) (addr_Blocks g)) (by rfl) ?_; rintro _ _ ⟨rfl, rfl⟩) | (refine sc_c (by rfl) (C_call (by rfl) (by infer_instance) (by rfl) (by rfl) (addr_between1 _ _ _ _ _ (by infer_instance) (by infer_instance))) (by rfl) ?_; rintro _ _ ⟨rfl, rfl⟩) | (refine sc_c (by rfl) (C_call (by rfl) (by infer_instance) (by rfl) (by rfl) (addr_between _ _)) (by rfl) ?_; rintro _ _ ⟨_, _, rfl, rfl⟩))
    | (refine s1_box ?_; (refine sc_w (by rfl) (W_boxA (by rfl)) (by rfl) ?_; rintro _ _ ⟨_, rfl, rfl⟩))
    | (refine s1_any ?_; refine sc_r (R_not (by rfl)) (by rfl) ?_)
    | refine swl_nil ?_
    | refine sx_next ?_
    | refine sw_seq ?_
    | refine sw_region ?_
    | refine sx_past_ret ?_
    | refine sw_cond_false (by rfl) ?_
    | refine sw_cond_not (by rfl) (fun hp => ?_) (fun hp => ?_)
    | refine sw_ret ?_
    | refine sw_skip ?_
    | fail)
    all_goals refine sx_ret_of (res2 rfl (ResOne.tmp rfl) (ResOne.tmp rfl)) L ⟨?_, rfl⟩ (by (repeat (first | exact Ent.refl _ | exact Ent.nil | (apply Ent.pick; focus ((repeat (first | exact Rem.here | apply Rem.there)); done)) | apply Ent.drop)))
    · rw [if_pos rfl, if_neg hp]
    · rw [if_pos rfl, if_pos hp]
theorem addr_First (g : Geo) (a : Int) {L : List HP} : Tr Tryd.prog 63 [.agg g.cells, .int .i64 a].toArray L (fun v L' => v = .tuple #[.int .i64 (firstOf g a).1, .int .i64 (firstOf g a).2] ∧ L = L') := by
  refine tr_enter Tryd.func63 rfl Tryd.ntmps63 rfl fun w0 => ?_
  unfold firstOf
  have h1 := segsG_bd g
  cases hm : mayG g
  · repeat' (first
    | refine swl_op ?_
    | (refine s1_load ?_; refine sc_r (L_load_all (by rfl) (by infer_instance) (by rfl)) (by rfl) ?_)
    | (refine s1_assign ?_; refine sc_r (R_assign (by rfl)) (by rfl) ?_)
    | (refine s1_call ?_; (refine sc_c (by rfl) (C_call (by rfl) (by infer_instance) (by rfl) (by rfl) (addr_May' g _ hm)) (by rfl) ?_; rintro _ _ ⟨rfl, rfl⟩))
    | (refine s1_box ?_; (refine sc_w (by rfl) (W_boxA (by rfl)) (by rfl) ?_; rintro _ _ ⟨_, rfl, rfl⟩))
    | (refine s1_any ?_; refine sc_r (R_not (by rfl)) (by rfl) ?_)
    | refine swl_nil ?_
    | refine sx_next ?_
    | refine sw_seq ?_
    | refine sw_region ?_
    | refine sx_past_ret ?_
    | refine sw_cond_true (by rfl) ?_
    | refine sw_ret ?_
    | fail)
    exact sx_ret_of (res2 rfl (ResOne.tmp rfl) (ResOne.tmp rfl)) L ⟨rfl, rfl⟩ (by (repeat (first | exact Ent.refl _ | exact Ent.nil | (apply Ent.pick; focus ((repeat (first | exact Rem.here | apply Rem.there)); done)) | apply Ent.drop)))
  · repeat' (first
    | refine swl_op ?_
    | (refine s1_move ?_; refine sc_r (R_move (by rfl)) (by rfl) ?_)
    | (refine s1_load ?_; refine sc_r (L_load_all (by rfl) (by infer_instance) (by rfl)) (by rfl) ?_)
    | (refine s1_assign ?_; refine sc_r (R_assign (by rfl)) (by rfl) ?_)
    | (refine s1_bin ?_; first | refine sc_r (R_add64 (by rfl) (by rfl) (by omega)) (by rfl) ?_ | refine sc_r (R_sub64 (by rfl) (by rfl) (by omega)) (by rfl) ?_ | refine sc_r (R_mul64 (by rfl) (by rfl) (by first | assumption | omega)) (by rfl) ?_)
    | (refine s1_call ?_; first | (refine sc_c (by rfl) (C_call (by rfl) (by infer_instance) (by rfl) (by rfl) (addr_May' g _ hm)) (by rfl) ?_; rintro _ _ ⟨rfl, rfl⟩) | (refine sc_c (by rfl) (C_call (by rfl) (by infer_instance) (by rfl) (by rfl) (addr_Segments g)) (by rfl) ?_; rintro _ _ ⟨rfl, rfl⟩) | (refine sc_c (by rfl) (C_call (by rfl) (by infer_instance) (by rfl) (by rfl) (addr_between1 _ _ _ _ _ (by infer_instance) (by infer_instance))) (by rfl) ?_; rintro _ _ ⟨rfl, rfl⟩) | (refine sc_c (by rfl) (C_call (by rfl) (by infer_instance) (by rfl) (by rfl) (addr_between _ _)) (by rfl) ?_; rintro _ _ ⟨_, _, rfl, rfl⟩))
    | (refine s1_box ?_; (refine sc_w (by rfl) (W_boxA (by rfl)) (by rfl) ?_; rintro _ _ ⟨_, rfl, rfl⟩))
    | (refine s1_any ?_; refine sc_r (R_not (by rfl)) (by rfl) ?_)
    | refine swl_nil ?_
    | refine sx_next ?_
    | refine sw_seq ?_
    | refine sw_region ?_
    | refine sx_past_ret ?_
    | refine sw_cond_false (by rfl) ?_
    | refine sw_cond_not (by rfl) (fun hp => ?_) (fun hp => ?_)
    | refine sw_ret ?_
    | refine sw_skip ?_
    | fail)
    all_goals refine sx_ret_of (res2 rfl (ResOne.tmp rfl) (ResOne.tmp rfl)) L ⟨?_, rfl⟩ (by (repeat (first | exact Ent.refl _ | exact Ent.nil | (apply Ent.pick; focus ((repeat (first | exact Rem.here | apply Rem.there)); done)) | apply Ent.drop)))
    · rw [if_pos rfl, if_neg hp]
    · rw [if_pos rfl, if_pos hp]
theorem segOf_ok {g : Geo} {a : Int} (h : (segOf g a).2 = 0) : mayG g = true ∧ 1 ≤ a ∧ a ≤ blocksG g ∧ (segOf g a).1 = (a - 1) / 16 := by
  unfold segOf at h ⊢
  split at h
  · split at h
    · rename_i h1 h2
      rw [if_pos h1, if_pos h2]; exact ⟨h1, h2.1, h2.2, rfl⟩
    · simp at h
  · simp at h
theorem addr_Tier (g : Geo) (a : Int) {L : List HP} : Tr Tryd.prog 64 [.agg g.cells, .int .i64 a].toArray L (fun v L' => v = .int .i64 (tierOf g a) ∧ L = L') := by
  refine tr_enter Tryd.func64 rfl Tryd.ntmps64 rfl fun w0 => ?_
  have hS := fun (L : List HP) => addr_Segment g a (L := L)
  unfold tierOf
  by_cases h0 : (segOf g a).2 = 0
  · obtain ⟨hm, h1, h2, h3⟩ := segOf_ok h0
    have h4 := mayG_is hm
    have h5 := blocksG_bd g
    rw [h0] at hS
    rw [if_pos h0]
    generalize (segOf g a).1 = s at *
    unfold Geo.cells at *
    repeat' (first
    | refine swl_op ?_
    | (refine s1_move ?_; refine sc_r (R_move (by rfl)) (by rfl) ?_)
    | (refine s1_load ?_; first | refine sc_r (L_load' (by rfl) (by infer_instance) (by rfl)) (by rfl) ?_ | refine sc_r (L_load_all (by rfl) (by infer_instance) (by rfl)) (by rfl) ?_)
    | (refine s1_fieldAddr ?_; refine sc_r (R_fieldAddr (by rfl)) (by rfl) ?_)
    | (refine s1_assign ?_; refine sc_r (R_assign (by rfl)) (by rfl) ?_)
    | (refine s1_bin ?_; first | refine sc_r (R_lss (by rfl) (by rfl)) (by rfl) ?_ | refine sc_r (R_neq (by rfl) (by rfl)) (by rfl) ?_ | refine sc_r (R_sub64 (by rfl) (by rfl) (by omega)) (by rfl) ?_)
    | (refine s1_call ?_; (refine sc_c (by rfl) (C_call (by rfl) (by infer_instance) (by rfl) (by rfl) (hS _)) (by rfl) ?_; rintro _ _ ⟨rfl, rfl⟩))
    | (refine s1_box ?_; (refine sc_w (by rfl) (W_boxA (by rfl)) (by rfl) ?_; rintro _ _ ⟨_, rfl, rfl⟩))
    | (refine s1_any ?_; refine sc_r (R_extract (by rfl) (by rfl)) (by rfl) ?_)
    | refine swl_nil ?_
    | refine sx_next ?_
    | refine sw_seq ?_
    | refine sw_region ?_
    | refine sw_block ?_
    | refine sx_past_ret ?_
    | refine sx_block_normal ?_
    | refine sx_block_ret ?_
    | refine sw_cond_false (by rfl) ?_
    | refine sw_cond_dec (by rfl) (fun hp => ?_) (fun hp => ?_)
    | refine sw_ret ?_
    | refine sw_skip ?_
    | fail)
    all_goals refine sx_ret_of (res1 rfl (ResOne.tmp rfl)) L ⟨?_, rfl⟩ (by (repeat (first | exact Ent.refl _ | exact Ent.nil | (apply Ent.pick; focus ((repeat (first | exact Rem.here | apply Rem.there)); done)) | apply Ent.drop)))
    · rw [if_pos hp]
    · rw [if_neg (by assumption), if_pos hp]
    · rw [if_neg (by assumption), if_neg hp]
  · rw [if_neg h0]
    generalize (segOf g a).2 = s2 at *
    generalize (segOf g a).1 = s at *
    unfold Geo.cells at *
    repeat' (first
    | refine swl_op ?_
    | (refine s1_move ?_; refine sc_r (R_move (by rfl)) (by rfl) ?_)
    | (refine s1_load ?_; refine sc_r (L_load_all (by rfl) (by infer_instance) (by rfl)) (by rfl) ?_)
    | (refine s1_assign ?_; refine sc_r (R_assign (by rfl)) (by rfl) ?_)
    | (refine s1_bin ?_; refine sc_r (R_neq (by rfl) (by rfl)) (by rfl) ?_)
    | (refine s1_call ?_; (refine sc_c (by rfl) (C_call (by rfl) (by infer_instance) (by rfl) (by rfl) (hS _)) (by rfl) ?_; rintro _ _ ⟨rfl, rfl⟩))
    | (refine s1_box ?_; (refine sc_w (by rfl) (W_boxA (by rfl)) (by rfl) ?_; rintro _ _ ⟨_, rfl, rfl⟩))
    | (refine s1_any ?_; refine sc_r (R_extract (by rfl) (by rfl)) (by rfl) ?_)
    | refine swl_nil ?_
    | refine sx_next ?_
    | refine sw_seq ?_
    | refine sw_region ?_
    | refine sx_past_ret ?_
    | refine sw_cond_nneg (by rfl) (by first | assumption | omega) ?_
    | refine sw_ret ?_
    | fail)
    all_goals exact sx_ret_of (res1 rfl (ResOne.tmp rfl)) L ⟨rfl, rfl⟩ (by (repeat (first | exact Ent.refl _ | exact Ent.nil | (apply Ent.pick; focus ((repeat (first | exact Rem.here | apply Rem.there)); done)) | apply Ent.drop)))
theorem addr_Where (g : Geo) (a : Int) {L : List HP} : Tr Tryd.prog 65 [.agg g.cells, .int .i64 a].toArray L (fun v L' => v = .tuple #[.agg (whereOf g a).1.cells, .int .i64 (whereOf g a).2] ∧ L = L') := by
  refine tr_enter Tryd.func65 rfl Tryd.ntmps65 rfl fun w0 => ?_
  have hS := fun (L : List HP) => addr_Segment g a (L := L)
  unfold whereOf
  by_cases h0 : (segOf g a).2 = 0
  · obtain ⟨hm, h1, h2, h3⟩ := segOf_ok h0
    have h4 := mayG_is hm
    have h5 := blocksG_bd g
    rw [h0] at hS
    rw [if_pos h0]
    generalize (segOf g a).1 = s at *
    unfold Geo.cells at *
    repeat' (first
    | refine swl_op ?_
    | (refine s1_move ?_; refine sc_r (R_move (by rfl)) (by rfl) ?_)
    | (refine s1_load ?_; first | refine sc_r (L_load' (by rfl) (by infer_instance) (by rfl)) (by rfl) ?_ | refine sc_r (L_load_all (by rfl) (by infer_instance) (by rfl)) (by rfl) ?_)
    | (refine s1_fieldAddr ?_; refine sc_r (R_fieldAddr (by rfl)) (by rfl) ?_)
    | (refine s1_assign ?_; refine sc_r (R_assign (by rfl)) (by rfl) ?_)
    | (refine s1_bin ?_; first | refine sc_r (R_lss (by rfl) (by rfl)) (by rfl) ?_ | refine sc_r (R_neq (by rfl) (by rfl)) (by rfl) ?_ | refine sc_r (R_sub64 (by rfl) (by rfl) (by omega)) (by rfl) ?_ | refine sc_r (R_rem64 (by rfl) (by rfl) (by omega)) (by rfl) ?_)
    | (refine s1_call ?_; (refine sc_c (by rfl) (C_call (by rfl) (by infer_instance) (by rfl) (by rfl) (hS _)) (by rfl) ?_; rintro _ _ ⟨rfl, rfl⟩))
    | (refine s1_store ?_; (refine sc_w (by rfl) (W_storeAll (by rfl) (by rfl) (by infer_instance) (by rfl) (by rfl) (by rfl)) (by rfl) ?_; rintro _ _ ⟨rfl, rfl⟩))
    | (refine s1_alloc ?_; (refine sc_w (by rfl) W_allocA (by rfl) ?_; rintro _ _ ⟨_, rfl, rfl⟩))
    | (refine s1_box ?_; (refine sc_w (by rfl) (W_boxA (by rfl)) (by rfl) ?_; rintro _ _ ⟨_, rfl, rfl⟩))
    | (refine s1_any ?_; first | refine sc_r (R_extract (by rfl) (by rfl)) (by rfl) ?_ | refine sc_r (R_build (by rfl) (by rfl)) (by rfl) ?_)
    | refine swl_nil ?_
    | refine sx_next ?_
    | refine sw_seq ?_
    | refine sw_region ?_
    | refine sx_past_ret ?_
    | refine sw_cond_false (by rfl) ?_
    | refine sw_cond_dec (by rfl) (fun hp => ?_) (fun hp => ?_)
    | refine sw_ret ?_
    | refine sw_skip ?_
    | fail)
    · exact sx_ret_of (res2 rfl (ResOne.cellA (by rfl) (by infer_instance) (by rfl)) (ResOne.tmp rfl)) L ⟨by rw [if_pos hp]; rfl, rfl⟩ (by (repeat (first | exact Ent.refl _ | exact Ent.nil | (apply Ent.pick; focus ((repeat (first | exact Rem.here | apply Rem.there)); done)) | apply Ent.drop)))
    · rename_i b2 b4
      repeat' (first
    | (refine s1_move ?_; refine sc_r (R_move (by rfl)) (by rfl) ?_)
    | (refine s1_load ?_; refine sc_r (L_load' (by rfl) (by infer_instance) (by rfl)) (by rfl) ?_)
    | (refine s1_fieldAddr ?_; refine sc_r (R_fieldAddr (by rfl)) (by rfl) ?_)
    | (refine s1_assign ?_; refine sc_r (R_assign (by rfl)) (by rfl) ?_)
    | (refine s1_bin ?_; first | refine sc_r (R_quo64 (by rfl) (by rfl) (by omega)) (by rfl) ?_ | refine sc_r (R_rem64 (by rfl) (by rfl) (by omega)) (by rfl) ?_)
    | (refine s1_store ?_; (refine sc_w (by rfl) (W_storeAll (by rfl) (by rfl) (by infer_instance) (by rfl) (by rfl) (by rfl)) (by rfl) ?_; rintro _ _ ⟨rfl, rfl⟩))
    | (refine s1_any ?_; refine sc_r (R_build (by rfl) (by rfl)) (by rfl) ?_)
    | refine sx_next ?_
    | refine sw_ret ?_
    | refine swh_lt (by rfl) (fun _ _ => wanted_none) ?_
    | refine swh_hv (by rfl) (fun _ _ => wanted_none) ?_
    | refine swh_nil ?_
    | (apply And.intro; focus ((repeat (first | exact Ent.refl _ | exact Ent.nil | (apply Ent.pick; focus ((repeat (first | exact Rem.here | apply Rem.there)); done)) | apply Ent.drop)); done))
    | (refine sw_region_draw (pt b2 (.cells #[.int .i64 g.disk, .int .i64 g.lines, .int .i64 g.vols, .int .i64 g.segs] 46) :: L) [(0, true), (1, true), (2, true), (3, true), (4, true), (5, true), (6, true), (7, true), (8, true), (9, true), (10, false), (11, true)] follows ?_ ?_ ?_ ?_; (focus rfl); (focus (decide +kernel)); (focus ((repeat (first | exact Ent.refl _ | exact Ent.nil | (apply Ent.pick; focus ((repeat (first | exact Rem.here | apply Rem.there)); done)) | apply Ent.drop)); done)))
    | fail)
      exact sx_ret_of (res2 rfl (ResOne.cellA (by rfl) (by infer_instance) (by rfl)) (ResOne.tmp rfl)) L ⟨by rw [if_neg hp]; rfl, rfl⟩ (by (repeat (first | exact Ent.refl _ | exact Ent.nil | (apply Ent.pick; focus ((repeat (first | exact Rem.here | apply Rem.there)); done)) | apply Ent.drop)))
  · rw [if_neg h0]
    generalize (segOf g a).2 = s2 at *
    generalize (segOf g a).1 = s at *
    unfold Geo.cells at *
    repeat' (first
    | refine swl_op ?_
    | (refine s1_move ?_; refine sc_r (R_move (by rfl)) (by rfl) ?_)
    | (refine s1_load ?_; refine sc_r (L_load_all (by rfl) (by infer_instance) (by rfl)) (by rfl) ?_)
    | (refine s1_assign ?_; refine sc_r (R_assign (by rfl)) (by rfl) ?_)
    | (refine s1_bin ?_; refine sc_r (R_neq (by rfl) (by rfl)) (by rfl) ?_)
    | (refine s1_call ?_; (refine sc_c (by rfl) (C_call (by rfl) (by infer_instance) (by rfl) (by rfl) (hS _)) (by rfl) ?_; rintro _ _ ⟨rfl, rfl⟩))
    | (refine s1_store ?_; (refine sc_w (by rfl) (W_storeAll (by rfl) (by rfl) (by infer_instance) (by rfl) (by rfl) (by rfl)) (by rfl) ?_; rintro _ _ ⟨rfl, rfl⟩))
    | (refine s1_alloc ?_; (refine sc_w (by rfl) W_allocA (by rfl) ?_; rintro _ _ ⟨_, rfl, rfl⟩))
    | (refine s1_box ?_; (refine sc_w (by rfl) (W_boxA (by rfl)) (by rfl) ?_; rintro _ _ ⟨_, rfl, rfl⟩))
    | (refine s1_any ?_; first | refine sc_r (R_extract (by rfl) (by rfl)) (by rfl) ?_ | refine sc_r (R_build (by rfl) (by rfl)) (by rfl) ?_)
    | refine swl_nil ?_
    | refine sx_next ?_
    | refine sw_seq ?_
    | refine sw_region ?_
    | refine sx_past_ret ?_
    | refine sw_cond_nneg (by rfl) (by first | assumption | omega) ?_
    | refine sw_ret ?_
    | fail)
    --DBG
    exact sx_ret_of (res2 rfl (ResOne.cellA (by rfl) (by infer_instance) (by rfl)) (ResOne.tmp rfl)) L ⟨rfl, rfl⟩ (by (repeat (first | exact Ent.refl _ | exact Ent.nil | (apply Ent.pick; focus ((repeat (first | exact Rem.here | apply Rem.there)); done)) | apply Ent.drop)))
def beforeP (g : Geo) (p : Place) : Int := if p.vol = -1 then 0 else g.disk + p.vol * g.segs
def roomP (g : Geo) (p : Place) : Int := if p.vol = -1 then g.disk else g.segs
def isPlace (g : Geo) (p : Place) : Bool := decide ((-1 ≤ p.vol ∧ p.vol ≤ g.vols - 1) ∧ (0 ≤ p.seg ∧ p.seg ≤ roomP g p - 1) ∧ (0 ≤ p.off ∧ p.off ≤ 15))
def ofP (g : Geo) (p : Place) : Int × Int := if mayG g then (if isPlace g p then ((beforeP g p + p.seg) * 16 + p.off + 1, 0) else (0, 4)) else (0, 1)
theorem addr_Of (g : Geo) (p : Place) {L : List HP} : Tr Tryd.prog 40 [.agg g.cells, .agg p.cells].toArray L (fun v L' => v = .tuple #[.int .i64 (ofP g p).1, .int .i64 (ofP g p).2] ∧ L = L') := by
  refine tr_enter Tryd.func40 rfl Tryd.ntmps40 rfl fun w0 => ?_
  have hM := fun (L : List HP) (b : Bool) (h : mayG g = b) => addr_May' g b h (L := L)
  unfold ofP
  cases hm : mayG g
  · replace hM := fun L => hM L _ hm
    unfold Geo.cells Place.cells at *
    repeat' (first
    | refine swl_op ?_
    | (refine s1_load ?_; refine sc_r (L_load_all (by rfl) (by infer_instance) (by rfl)) (by rfl) ?_)
    | (refine s1_assign ?_; refine sc_r (R_assign (by rfl)) (by rfl) ?_)
    | (refine s1_call ?_; (refine sc_c (by rfl) (C_call (by rfl) (by infer_instance) (by rfl) (by rfl) (hM _)) (by rfl) ?_; rintro _ _ ⟨rfl, rfl⟩))
    | (refine s1_box ?_; (refine sc_w (by rfl) (W_boxA (by rfl)) (by rfl) ?_; rintro _ _ ⟨_, rfl, rfl⟩))
    | (refine s1_any ?_; refine sc_r (R_not (by rfl)) (by rfl) ?_)
    | refine swl_nil ?_
    | refine sx_next ?_
    | refine sw_seq ?_
    | refine sw_region ?_
    | refine sx_past_ret ?_
    | refine sw_cond_true (by rfl) ?_
    | refine sw_ret ?_
    | fail)
    exact sx_ret_of (res2 rfl (ResOne.tmp rfl) (ResOne.tmp rfl)) L ⟨rfl, rfl⟩ (by (repeat (first | exact Ent.refl _ | exact Ent.nil | (apply Ent.pick; focus ((repeat (first | exact Rem.here | apply Rem.there)); done)) | apply Ent.drop)))
  · replace hM := fun L => hM L _ hm
    have h1 := mayG_is hm
    unfold Geo.cells Place.cells at *
    rw [if_pos rfl]
    unfold isPlace
    by_cases hv : -1 ≤ p.vol ∧ p.vol ≤ g.vols - 1
    · by_cases hd : p.vol = -1
      · simp only [beforeP, roomP, if_pos hd]
        repeat' (first
    | refine swl_op ?_
    | (refine s1_move ?_; refine sc_r (R_move (by rfl)) (by rfl) ?_)
    | (refine s1_load ?_; first | refine sc_r (L_load' (by rfl) (by infer_instance) (by rfl)) (by rfl) ?_ | refine sc_r (L_load_all (by rfl) (by infer_instance) (by rfl)) (by rfl) ?_)
    | (refine s1_fieldAddr ?_; refine sc_r (R_fieldAddr (by rfl)) (by rfl) ?_)
    | (refine s1_assign ?_; refine sc_r (R_assign (by rfl)) (by rfl) ?_)
    | (refine s1_pick ?_; first | refine sc_r (R_pick_t (by rfl) (by rfl)) (by rfl) ?_ | refine sc_r (R_pick_f (by rfl) (by rfl)) (by rfl) ?_)
    | (refine s1_bin ?_; first | refine sc_r (R_add64 (by rfl) (by rfl) (by omega)) (by rfl) ?_ | refine sc_r (R_neq (by rfl) (by rfl)) (by rfl) ?_ | refine sc_r (R_sub64 (by rfl) (by rfl) (by omega)) (by rfl) ?_ | refine sc_r (R_mul64 (by rfl) (by rfl) (by first | assumption | omega)) (by rfl) ?_)
    | (refine s1_call ?_; first | (refine sc_c (by rfl) (C_call (by rfl) (by infer_instance) (by rfl) (by rfl) (hM _)) (by rfl) ?_; rintro _ _ ⟨rfl, rfl⟩) | (refine sc_c (by rfl) (C_call (by rfl) (by infer_instance) (by rfl) (by rfl) (addr_between1 _ _ _ _ _ (by infer_instance) (by infer_instance))) (by rfl) ?_; rintro _ _ ⟨rfl, rfl⟩) | (refine sc_c (by rfl) (C_call (by rfl) (by infer_instance) (by rfl) (by rfl) (addr_between _ _)) (by rfl) ?_; rintro _ _ ⟨_, _, rfl, rfl⟩))
    | (refine s1_box ?_; (refine sc_w (by rfl) (W_boxA (by rfl)) (by rfl) ?_; rintro _ _ ⟨_, rfl, rfl⟩))
    | (refine s1_any ?_; refine sc_r (R_not (by rfl)) (by rfl) ?_)
    | refine swl_nil ?_
    | refine sx_next ?_
    | refine sw_seq ?_
    | refine sw_region ?_
    | refine swl_g_on (by rfl) (by rfl) ?_
    | refine swl_g_off (by rfl) (by rfl) (by rfl) (by rfl) ?_
    | refine swl_g_ndec (by rfl) (by rfl) (fun hp => ?_) (fun hp => ?_)
    | refine sx_past_ret ?_
    | refine sw_cond_true (by rfl) ?_
    | refine sw_cond_false (by rfl) ?_
    | refine sw_cond_npos (by rfl) (by first | assumption | omega) ?_
    | refine sw_cond_not (by rfl) (fun hp => ?_) (fun hp => ?_)
    | refine sw_ret ?_
    | refine sw_skip ?_
    | refine swh_lt (by rfl) (fun _ _ => wanted_none) ?_
    | refine swh_nil ?_
    | (refine sw_draw [(0, true), (1, true), (2, true), (3, true)] follows ?_ ?_ ?_; (focus rfl); (focus (decide +kernel)))
    | fail)
        all_goals first | exact absurd hv ‹_› | skip
        all_goals refine sx_ret_of (res2 rfl (ResOne.tmp rfl) (ResOne.tmp rfl)) L ⟨?_, rfl⟩ (by (repeat (first | exact Ent.refl _ | exact Ent.nil | (apply Ent.pick; focus ((repeat (first | exact Rem.here | apply Rem.there)); done)) | apply Ent.drop)))
        · rw [if_neg (by simp; omega)]
        · rw [if_neg (by simp; omega)]
        · rw [if_pos (by simp; omega)]
      · have hmu : 0 ≤ p.vol * g.segs ∧ p.vol * g.segs ≤ 2048 := ⟨Int.mul_nonneg (by omega) (by omega), Int.mul_le_mul (show p.vol ≤ 8 by omega) (show g.segs ≤ 256 by omega) (by omega) (by omega)⟩
        simp only [beforeP, roomP, if_neg hd]
        repeat' (first
    | refine swl_op ?_
    | (refine s1_move ?_; refine sc_r (R_move (by rfl)) (by rfl) ?_)
    | (refine s1_load ?_; first | refine sc_r (L_load' (by rfl) (by infer_instance) (by rfl)) (by rfl) ?_ | refine sc_r (L_load_all (by rfl) (by infer_instance) (by rfl)) (by rfl) ?_)
    | (refine s1_fieldAddr ?_; refine sc_r (R_fieldAddr (by rfl)) (by rfl) ?_)
    | (refine s1_assign ?_; refine sc_r (R_assign (by rfl)) (by rfl) ?_)
    | (refine s1_pick ?_; first | refine sc_r (R_pick_t (by rfl) (by rfl)) (by rfl) ?_ | refine sc_r (R_pick_f (by rfl) (by rfl)) (by rfl) ?_)
    | (refine s1_bin ?_; first | refine sc_r (R_add64 (by rfl) (by rfl) (by omega)) (by rfl) ?_ | refine sc_r (R_neq (by rfl) (by rfl)) (by rfl) ?_ | refine sc_r (R_sub64 (by rfl) (by rfl) (by omega)) (by rfl) ?_ | refine sc_r (R_mul64 (by rfl) (by rfl) (by first | assumption | omega)) (by rfl) ?_)
    | (refine s1_call ?_; first | (refine sc_c (by rfl) (C_call (by rfl) (by infer_instance) (by rfl) (by rfl) (hM _)) (by rfl) ?_; rintro _ _ ⟨rfl, rfl⟩) | (refine sc_c (by rfl) (C_call (by rfl) (by infer_instance) (by rfl) (by rfl) (addr_between1 _ _ _ _ _ (by infer_instance) (by infer_instance))) (by rfl) ?_; rintro _ _ ⟨rfl, rfl⟩) | (refine sc_c (by rfl) (C_call (by rfl) (by infer_instance) (by rfl) (by rfl) (addr_between _ _)) (by rfl) ?_; rintro _ _ ⟨_, _, rfl, rfl⟩))
    | (refine s1_box ?_; (refine sc_w (by rfl) (W_boxA (by rfl)) (by rfl) ?_; rintro _ _ ⟨_, rfl, rfl⟩))
    | (refine s1_any ?_; refine sc_r (R_not (by rfl)) (by rfl) ?_)
    | refine swl_nil ?_
    | refine sx_next ?_
    | refine sw_seq ?_
    | refine sw_region ?_
    | refine swl_g_on (by rfl) (by rfl) ?_
    | refine swl_g_off (by rfl) (by rfl) (by rfl) (by rfl) ?_
    | refine swl_g_ndec (by rfl) (by rfl) (fun hp => ?_) (fun hp => ?_)
    | refine sx_past_ret ?_
    | refine sw_cond_true (by rfl) ?_
    | refine sw_cond_false (by rfl) ?_
    | refine sw_cond_npos (by rfl) (by first | assumption | omega) ?_
    | refine sw_cond_nneg (by rfl) (by first | assumption | omega) ?_
    | refine sw_cond_not (by rfl) (fun hp => ?_) (fun hp => ?_)
    | refine sw_ret ?_
    | refine sw_skip ?_
    | refine swh_lt (by rfl) (fun _ _ => wanted_none) ?_
    | refine swh_nil ?_
    | (refine sw_draw [(0, true), (1, true), (2, true), (3, true)] follows ?_ ?_ ?_; (focus rfl); (focus (decide +kernel)))
    | (refine sw_draw [(0, true), (1, true), (2, true), (3, true), (4, true), (5, true), (6, true), (7, true), (8, true), (9, true), (10, true), (11, true)] follows ?_ ?_ ?_; (focus rfl); (focus (decide +kernel)))
    | fail)
        --DBG
        all_goals first | exact absurd hv ‹_› | skip
        all_goals refine sx_ret_of (res2 rfl (ResOne.tmp rfl) (ResOne.tmp rfl)) L ⟨?_, rfl⟩ (by (repeat (first | exact Ent.refl _ | exact Ent.nil | (apply Ent.pick; focus ((repeat (first | exact Rem.here | apply Rem.there)); done)) | apply Ent.drop)))
        · rw [if_neg (by simp; omega)]
        · rw [if_neg (by simp; omega)]
        · rw [if_pos (by simp; omega)]
    · repeat' (first
    | refine swl_op ?_
    | (refine s1_move ?_; refine sc_r (R_move (by rfl)) (by rfl) ?_)
    | (refine s1_load ?_; first | refine sc_r (L_load' (by rfl) (by infer_instance) (by rfl)) (by rfl) ?_ | refine sc_r (L_load_all (by rfl) (by infer_instance) (by rfl)) (by rfl) ?_)
    | (refine s1_fieldAddr ?_; refine sc_r (R_fieldAddr (by rfl)) (by rfl) ?_)
    | (refine s1_assign ?_; refine sc_r (R_assign (by rfl)) (by rfl) ?_)
    | (refine s1_bin ?_; refine sc_r (R_sub64 (by rfl) (by rfl) (by omega)) (by rfl) ?_)
    | (refine s1_call ?_; first | (refine sc_c (by rfl) (C_call (by rfl) (by infer_instance) (by rfl) (by rfl) (hM _)) (by rfl) ?_; rintro _ _ ⟨rfl, rfl⟩) | (refine sc_c (by rfl) (C_call (by rfl) (by infer_instance) (by rfl) (by rfl) (addr_between1 _ _ _ _ _ (by infer_instance) (by infer_instance))) (by rfl) ?_; rintro _ _ ⟨rfl, rfl⟩) | (refine sc_c (by rfl) (C_call (by rfl) (by infer_instance) (by rfl) (by rfl) (addr_between _ _)) (by rfl) ?_; rintro _ _ ⟨_, _, rfl, rfl⟩))
    | (refine s1_box ?_; (refine sc_w (by rfl) (W_boxA (by rfl)) (by rfl) ?_; rintro _ _ ⟨_, rfl, rfl⟩))
    | (refine s1_any ?_; refine sc_r (R_not (by rfl)) (by rfl) ?_)
    | refine swl_nil ?_
    | refine sx_next ?_
    | refine sw_seq ?_
    | refine sw_region ?_
    | refine sx_past_ret ?_
    | refine sw_cond_false (by rfl) ?_
    | refine sw_cond_nneg (by rfl) (by first | assumption | omega) ?_
    | refine sw_ret ?_
    | refine sw_skip ?_
    | fail)
      all_goals first | exact absurd ‹_› hv | skip
      refine sx_ret_of (res2 rfl (ResOne.tmp rfl) (ResOne.tmp rfl)) L ⟨?_, rfl⟩ (by (repeat (first | exact Ent.refl _ | exact Ent.nil | (apply Ent.pick; focus ((repeat (first | exact Rem.here | apply Rem.there)); done)) | apply Ent.drop)))
      rw [if_neg (by simp; omega)]
end Go.Proofs.YtjdnflhejfcgdaaDoor
