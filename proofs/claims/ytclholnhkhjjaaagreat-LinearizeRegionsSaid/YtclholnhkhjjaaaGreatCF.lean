/-
  Part CF of this claim's proof. Joined by merge.py from the texts of wip/tpl.
-/
import Derived.Test.YtclholnhkhjjaaaGreatAbB
import Derived.Test.YtclholnhkhjjaaaGreatProg
set_option linter.unusedVariables false
set_option linter.unusedSimpArgs false
set_option linter.unnecessarySimpa false
namespace Go.Proofs.Lg
open Go Go.Ab

def c_refBefore : CF := ⟨26,
   (.seq
    (.ops false [] [
      ⟨(some 3), none, .box (.t 0)⟩,
      ⟨(some 6), none, .mov (.c (.d (.sc (.bool false))))⟩])
    (.seq
     (.ops false [] [
       ⟨(some 7), none, .fad 2 (.t 3)⟩,
       ⟨(some 8), none, .ld none (.t 7)⟩,
       ⟨(some 9), none, .mov (.t 1)⟩,
       ⟨(some 10), none, .iad 1 (.t 8) (.t 9)⟩,
       ⟨(some 11), none, .ld none (.t 10)⟩,
       ⟨(some 12), none, .mov (.t 2)⟩,
       ⟨(some 13), none, .iad 1 (.t 11) (.t 12)⟩,
       ⟨(some 14), none, .ld none (.t 13)⟩,
       ⟨(some 15), none, .mov (.t 14)⟩,
       ⟨(some 16), (some ((some 15), true)), .fad 2 (.t 3)⟩,
       ⟨(some 17), (some ((some 15), true)), .ld none (.t 16)⟩,
       ⟨(some 18), (some ((some 15), true)), .mov (.t 2)⟩,
       ⟨(some 19), (some ((some 15), true)), .iad 1 (.t 17) (.t 18)⟩,
       ⟨(some 20), (some ((some 15), true)), .ld none (.t 19)⟩,
       ⟨(some 21), (some ((some 15), true)), .mov (.t 1)⟩,
       ⟨(some 22), (some ((some 15), true)), .iad 1 (.t 20) (.t 21)⟩,
       ⟨(some 23), (some ((some 15), true)), .ld none (.t 22)⟩,
       ⟨(some 24), (some ((some 15), true)), .not (.t 23)⟩,
       ⟨(some 25), none, .pick (.t 15) (.t 24) (.c (.d (.sc (.bool false))))⟩,
       ⟨(some 6), none, .mov (.t 25)⟩])
     .ret)), [.tmp 6]⟩
theorem ok_refBefore : compFn Tryz.prog [] 86 = some c_refBefore := by kernel_rfl

def c_refTogether : CF := ⟨25,
   (.seq
    (.ops false [] [
      ⟨(some 3), none, .box (.t 0)⟩,
      ⟨(some 6), none, .mov (.c (.d (.sc (.bool false))))⟩])
    (.seq
     (.ops false [] [
       ⟨(some 7), none, .fad 2 (.t 3)⟩,
       ⟨(some 8), none, .ld none (.t 7)⟩,
       ⟨(some 9), none, .mov (.t 1)⟩,
       ⟨(some 10), none, .iad 1 (.t 8) (.t 9)⟩,
       ⟨(some 11), none, .ld none (.t 10)⟩,
       ⟨(some 12), none, .mov (.t 2)⟩,
       ⟨(some 13), none, .iad 1 (.t 11) (.t 12)⟩,
       ⟨(some 14), none, .ld none (.t 13)⟩,
       ⟨(some 15), none, .mov (.t 14)⟩,
       ⟨(some 16), (some ((some 15), false)), .fad 2 (.t 3)⟩,
       ⟨(some 17), (some ((some 15), false)), .ld none (.t 16)⟩,
       ⟨(some 18), (some ((some 15), false)), .mov (.t 2)⟩,
       ⟨(some 19), (some ((some 15), false)), .iad 1 (.t 17) (.t 18)⟩,
       ⟨(some 20), (some ((some 15), false)), .ld none (.t 19)⟩,
       ⟨(some 21), (some ((some 15), false)), .mov (.t 1)⟩,
       ⟨(some 22), (some ((some 15), false)), .iad 1 (.t 20) (.t 21)⟩,
       ⟨(some 23), (some ((some 15), false)), .ld none (.t 22)⟩,
       ⟨(some 24), none, .pick (.t 15) (.c (.d (.sc (.bool true)))) (.t 23)⟩,
       ⟨(some 6), none, .mov (.t 24)⟩])
     .ret)), [.tmp 6]⟩
theorem ok_refTogether : compFn Tryz.prog [] 108 = some c_refTogether := by kernel_rfl

def c_refHas : CF := ⟨18,
   (.seq
    (.ops false [] [
      ⟨(some 4), none, .mov (.c (.d (.sc (.bool false))))⟩])
    (.seq
     (.seq
      (.ops false [] [
        ⟨(some 5), none, .mov (.c (.d (.sc (.int .i64 0))))⟩])
      (.block 0
       (.loop
        (.seq
         (.seq
          (.ops false [] [
            ⟨(some 6), none, .mov (.t 5)⟩,
            ⟨(some 7), none, .mov (.t 0)⟩,
            ⟨(some 8), none, .len (.t 7)⟩,
            ⟨(some 9), none, .bin .lss (.t 6) (.t 8)⟩])
          (.cond (.t 9)
           .skip
           (.exit 0)))
         (.seq
          (.block 1
           (.seq
            (.ops false [] [
              ⟨(some 12), none, .mov (.t 0)⟩,
              ⟨(some 13), none, .mov (.t 5)⟩,
              ⟨(some 14), none, .iad 1 (.t 12) (.t 13)⟩,
              ⟨(some 15), none, .ld none (.t 14)⟩,
              ⟨(some 16), none, .mov (.t 1)⟩,
              ⟨(some 17), none, .bin .eql (.t 15) (.t 16)⟩])
            (.cond (.t 17)
             (.seq
              (.ops false [] [
                ⟨(some 4), none, .mov (.c (.d (.sc (.bool true))))⟩])
              .ret)
             .skip)))
          (.ops false [] [
            ⟨(some 10), none, .mov (.t 5)⟩,
            ⟨(some 11), none, .bin .add (.t 10) (.c (.d (.sc (.int .i64 1))))⟩,
            ⟨(some 5), none, .mov (.t 11)⟩]))))))
     (.seq
      (.ops false [] [
        ⟨(some 4), none, .mov (.c (.d (.sc (.bool false))))⟩])
      .ret))), [.tmp 4]⟩
theorem ok_refHas : compFn Tryz.prog [] 85 = some c_refHas := by kernel_rfl

def c_refFree : CF := ⟨21,
   (.seq
    (.ops false [] [
      ⟨(some 3), none, .box (.t 0)⟩,
      ⟨(some 6), none, .mov (.c (.d (.sc (.bool false))))⟩])
    (.seq
     (.seq
      (.ops false [] [
        ⟨(some 7), none, .mov (.c (.d (.sc (.int .i64 0))))⟩])
      (.block 0
       (.loop
        (.seq
         (.seq
          (.ops false [] [
            ⟨(some 8), none, .mov (.t 7)⟩,
            ⟨(some 9), none, .mov (.t 2)⟩,
            ⟨(some 10), none, .len (.t 9)⟩,
            ⟨(some 11), none, .bin .lss (.t 8) (.t 10)⟩])
          (.cond (.t 11)
           .skip
           (.exit 0)))
         (.seq
          (.block 1
           (.seq
            (.ops true [0, 0, 0, 6, 14, 0, 63] [
              ⟨(some 14), none, .ld (some 3) (.t 3)⟩,
              ⟨(some 15), none, .mov (.t 2)⟩,
              ⟨(some 16), none, .mov (.t 7)⟩,
              ⟨(some 17), none, .iad 1 (.t 15) (.t 16)⟩,
              ⟨(some 18), none, .ld none (.t 17)⟩,
              ⟨(some 19), none, .mov (.t 1)⟩,
              ⟨(some 20), none, .call 86 [(.t 14), (.t 18), (.t 19)]⟩])
            (.cond (.t 20)
             (.seq
              (.ops false [] [
                ⟨(some 6), none, .mov (.c (.d (.sc (.bool false))))⟩])
              .ret)
             .skip)))
          (.ops false [] [
            ⟨(some 12), none, .mov (.t 7)⟩,
            ⟨(some 13), none, .bin .add (.t 12) (.c (.d (.sc (.int .i64 1))))⟩,
            ⟨(some 7), none, .mov (.t 13)⟩]))))))
     (.seq
      (.ops false [] [
        ⟨(some 6), none, .mov (.c (.d (.sc (.bool true))))⟩])
      .ret))), [.tmp 6]⟩
theorem ok_refFree : compFn Tryz.prog [] 105 = some c_refFree := by kernel_rfl

def c_refIsSettled : CF := ⟨40,
   (.seq
    (.ops false [] [
      ⟨(some 3), none, .box (.t 0)⟩,
      ⟨(some 6), none, .mov (.c (.d (.sc (.bool false))))⟩])
    (.seq
     (.seq
      (.ops false [] [
        ⟨(some 7), none, .mov (.c (.d (.sc (.int .i64 0))))⟩])
      (.block 0
       (.loop
        (.seq
         (.seq
          (.ops false [] [
            ⟨(some 8), none, .mov (.t 7)⟩,
            ⟨(some 9), none, .mov (.t 2)⟩,
            ⟨(some 10), none, .len (.t 9)⟩,
            ⟨(some 11), none, .bin .lss (.t 8) (.t 10)⟩])
          (.cond (.t 11)
           .skip
           (.exit 0)))
         (.seq
          (.block 1
           (.seq
            (.ops true [0, 0, 3, 7, 0, 31, 63, 127, 127, 127, 127, 1663, 3711, 8191, 16383, 32767, 65535, 131071, 131071, 131071, 917503, 1966079, 131071, 8388607, 16777215, 33554431] [
              ⟨(some 14), none, .mov (.t 2)⟩,
              ⟨(some 15), none, .mov (.t 7)⟩,
              ⟨(some 16), none, .iad 1 (.t 14) (.t 15)⟩,
              ⟨(some 17), none, .ld none (.t 16)⟩,
              ⟨(some 18), none, .mov (.t 1)⟩,
              ⟨(some 19), none, .bin .neq (.t 17) (.t 18)⟩,
              ⟨(some 20), none, .mov (.t 19)⟩,
              ⟨(some 21), (some ((some 20), true)), .ld (some 3) (.t 3)⟩,
              ⟨(some 22), (some ((some 20), true)), .mov (.t 1)⟩,
              ⟨(some 23), (some ((some 20), true)), .mov (.t 2)⟩,
              ⟨(some 24), (some ((some 20), true)), .mov (.t 7)⟩,
              ⟨(some 25), (some ((some 20), true)), .iad 1 (.t 23) (.t 24)⟩,
              ⟨(some 26), (some ((some 20), true)), .ld none (.t 25)⟩,
              ⟨(some 27), (some ((some 20), true)), .call 86 [(.t 21), (.t 22), (.t 26)]⟩,
              ⟨(some 28), (some ((some 20), true)), .not (.t 27)⟩,
              ⟨(some 29), none, .pick (.t 20) (.t 28) (.c (.d (.sc (.bool false))))⟩,
              ⟨(some 30), none, .mov (.t 29)⟩,
              ⟨(some 31), (some ((some 30), true)), .ld (some 3) (.t 3)⟩,
              ⟨(some 32), (some ((some 30), true)), .mov (.t 2)⟩,
              ⟨(some 33), (some ((some 30), true)), .mov (.t 7)⟩,
              ⟨(some 34), (some ((some 30), true)), .iad 1 (.t 32) (.t 33)⟩,
              ⟨(some 35), (some ((some 30), true)), .ld none (.t 34)⟩,
              ⟨(some 36), (some ((some 30), true)), .mov (.t 1)⟩,
              ⟨(some 37), (some ((some 30), true)), .call 86 [(.t 31), (.t 35), (.t 36)]⟩,
              ⟨(some 38), (some ((some 30), true)), .not (.t 37)⟩,
              ⟨(some 39), none, .pick (.t 30) (.t 38) (.c (.d (.sc (.bool false))))⟩])
            (.cond (.t 39)
             (.seq
              (.ops false [] [
                ⟨(some 6), none, .mov (.c (.d (.sc (.bool false))))⟩])
              .ret)
             .skip)))
          (.ops false [] [
            ⟨(some 12), none, .mov (.t 7)⟩,
            ⟨(some 13), none, .bin .add (.t 12) (.c (.d (.sc (.int .i64 1))))⟩,
            ⟨(some 7), none, .mov (.t 13)⟩]))))))
     (.seq
      (.ops false [] [
        ⟨(some 6), none, .mov (.c (.d (.sc (.bool true))))⟩])
      .ret))), [.tmp 6]⟩
theorem ok_refIsSettled : compFn Tryz.prog [] 79 = some c_refIsSettled := by kernel_rfl

def c_refLiving : CF := ⟨25,
   (.seq
    (.ops false [] [
      ⟨(some 1), none, .box (.t 0)⟩,
      ⟨(some 2), none, .mov (.c (.nil 1))⟩])
    (.seq
     (.ops false [] [
       ⟨(some 5), none, .bsl false 3 1 0 [] []⟩,
       ⟨(some 3), none, .mov (.t 5)⟩])
     (.seq
      (.seq
       (.ops false [] [
         ⟨(some 4), none, .mov (.c (.d (.sc (.int .i64 0))))⟩])
       (.block 0
        (.loop
         (.seq
          (.seq
           (.ops false [] [
             ⟨(some 6), none, .mov (.t 4)⟩,
             ⟨(some 7), none, .fad 2 (.t 1)⟩,
             ⟨(some 8), none, .ld none (.t 7)⟩,
             ⟨(some 9), none, .len (.t 8)⟩,
             ⟨(some 10), none, .bin .lss (.t 6) (.t 9)⟩])
           (.cond (.t 10)
            .skip
            (.exit 0)))
          (.seq
           (.block 1
            (.seq
             (.ops false [] [
               ⟨(some 13), none, .fad 0 (.t 1)⟩,
               ⟨(some 14), none, .fad 0 (.t 13)⟩,
               ⟨(some 15), none, .ld none (.t 14)⟩,
               ⟨(some 16), none, .mov (.t 4)⟩,
               ⟨(some 17), none, .iad 35 (.t 15) (.t 16)⟩,
               ⟨(some 18), none, .fad 34 (.t 17)⟩,
               ⟨(some 19), none, .ld none (.t 18)⟩])
             (.cond (.t 19)
              (.ops false [] [
                ⟨(some 20), none, .mov (.t 3)⟩,
                ⟨(some 21), none, .mov (.t 4)⟩,
                ⟨(some 22), none, .bsl false 3 1 1 [(.d (.sc (.int .i64 0)))] [(0, 1, (.t 21))]⟩,
                ⟨(some 23), none, .app false 3 1 8 (.t 20) (.t 22)⟩,
                ⟨(some 3), none, .mov (.t 23)⟩])
              .skip)))
           (.ops false [] [
             ⟨(some 11), none, .mov (.t 4)⟩,
             ⟨(some 12), none, .bin .add (.t 11) (.c (.d (.sc (.int .i64 1))))⟩,
             ⟨(some 4), none, .mov (.t 12)⟩]))))))
      (.seq
       (.ops false [] [
         ⟨(some 24), none, .mov (.t 3)⟩,
         ⟨(some 2), none, .mov (.t 24)⟩])
       .ret)))), [.tmp 2]⟩
theorem ok_refLiving : compFn Tryz.prog [] 78 = some c_refLiving := by kernel_rfl

def c_refArranged : CF := ⟨46,
   (.seq
    (.ops false [] [
      ⟨(some 2), none, .box (.t 0)⟩,
      ⟨(some 4), none, .mov (.c (.nil 1))⟩])
    (.seq
     (.ops false [] [
       ⟨(some 7), none, .bsl false 3 1 0 [] []⟩,
       ⟨(some 5), none, .mov (.t 7)⟩])
     (.seq
      (.block 0
       (.loop
        (.seq
         (.seq
          (.ops false [] [
            ⟨(some 8), none, .mov (.t 1)⟩,
            ⟨(some 9), none, .len (.t 8)⟩,
            ⟨(some 10), none, .bin .gtr (.t 9) (.c (.d (.sc (.int .i64 0))))⟩])
          (.cond (.t 10)
           .skip
           (.exit 0)))
         (.block 1
          (.seq
           (.ops false [] [
             ⟨(some 6), none, .mov (.c (.d (.sc (.int .i64 0))))⟩])
           (.seq
            (.block 2
             (.loop
              (.seq
               (.seq
                (.ops true [0, 1, 0, 4, 15, 31, 63, 63, 63, 447, 959, 63, 4095, 8191, 16383] [
                  ⟨(some 11), none, .mov (.t 6)⟩,
                  ⟨(some 12), none, .bin .add (.t 11) (.c (.d (.sc (.int .i64 1))))⟩,
                  ⟨(some 13), none, .mov (.t 1)⟩,
                  ⟨(some 14), none, .len (.t 13)⟩,
                  ⟨(some 15), none, .bin .lss (.t 12) (.t 14)⟩,
                  ⟨(some 16), none, .mov (.t 15)⟩,
                  ⟨(some 17), (some ((some 16), true)), .ld (some 3) (.t 2)⟩,
                  ⟨(some 18), (some ((some 16), true)), .mov (.t 1)⟩,
                  ⟨(some 19), (some ((some 16), true)), .mov (.t 6)⟩,
                  ⟨(some 20), (some ((some 16), true)), .iad 1 (.t 18) (.t 19)⟩,
                  ⟨(some 21), (some ((some 16), true)), .ld none (.t 20)⟩,
                  ⟨(some 22), (some ((some 16), true)), .mov (.t 1)⟩,
                  ⟨(some 23), (some ((some 16), true)), .call 105 [(.t 17), (.t 21), (.t 22)]⟩,
                  ⟨(some 24), (some ((some 16), true)), .not (.t 23)⟩,
                  ⟨(some 25), none, .pick (.t 16) (.t 24) (.c (.d (.sc (.bool false))))⟩])
                (.cond (.t 25)
                 .skip
                 (.exit 2)))
               (.block 3
                (.ops false [] [
                  ⟨(some 26), none, .mov (.t 6)⟩,
                  ⟨(some 27), none, .bin .add (.t 26) (.c (.d (.sc (.int .i64 1))))⟩,
                  ⟨(some 6), none, .mov (.t 27)⟩])))))
            (.seq
             (.ops false [] [
               ⟨(some 28), none, .mov (.t 5)⟩,
               ⟨(some 29), none, .mov (.t 1)⟩,
               ⟨(some 30), none, .mov (.t 6)⟩,
               ⟨(some 31), none, .iad 1 (.t 29) (.t 30)⟩,
               ⟨(some 32), none, .ld none (.t 31)⟩,
               ⟨(some 33), none, .bsl false 3 1 1 [(.d (.sc (.int .i64 0)))] [(0, 1, (.t 32))]⟩,
               ⟨(some 34), none, .app false 3 1 8 (.t 28) (.t 33)⟩,
               ⟨(some 5), none, .mov (.t 34)⟩])
             (.ops true [0, 0, 0, 6, 15, 0, 0, 64, 224, 511, 1023] [
               ⟨(some 35), none, .bsl false 3 1 0 [] []⟩,
               ⟨(some 36), none, .mov (.t 1)⟩,
               ⟨(some 37), none, .mov (.t 6)⟩,
               ⟨(some 38), none, .slc 1 (.t 36) none (some (.t 37))⟩,
               ⟨(some 39), none, .app false 3 1 8 (.t 35) (.t 38)⟩,
               ⟨(some 40), none, .mov (.t 1)⟩,
               ⟨(some 41), none, .mov (.t 6)⟩,
               ⟨(some 42), none, .bin .add (.t 41) (.c (.d (.sc (.int .i64 1))))⟩,
               ⟨(some 43), none, .slc 1 (.t 40) (some (.t 42)) none⟩,
               ⟨(some 44), none, .app false 3 1 8 (.t 39) (.t 43)⟩,
               ⟨(some 1), none, .mov (.t 44)⟩]))))))))
      (.seq
       (.ops false [] [
         ⟨(some 45), none, .mov (.t 5)⟩,
         ⟨(some 4), none, .mov (.t 45)⟩])
       .ret)))), [.tmp 4]⟩
theorem ok_refArranged : compFn Tryz.prog [] 80 = some c_refArranged := by kernel_rfl

def c_refSettledM : CF := ⟨32,
   (.seq
    (.ops false [] [
      ⟨(some 1), none, .box (.t 0)⟩,
      ⟨(some 2), none, .mov (.c (.nil 1))⟩])
    (.seq
     (.ops false [] [
       ⟨(some 6), none, .bsl false 3 1 0 [] []⟩,
       ⟨(some 3), none, .mov (.t 6)⟩])
     (.seq
      (.ops false [] [
        ⟨(some 7), none, .ld (some 3) (.t 1)⟩,
        ⟨(some 8), none, .call 78 [(.t 7)]⟩,
        ⟨(some 4), none, .mov (.t 8)⟩])
      (.seq
       (.seq
        (.ops false [] [
          ⟨(some 5), none, .mov (.c (.d (.sc (.int .i64 0))))⟩])
        (.block 0
         (.loop
          (.seq
           (.seq
            (.ops false [] [
              ⟨(some 9), none, .mov (.t 5)⟩,
              ⟨(some 10), none, .mov (.t 4)⟩,
              ⟨(some 11), none, .len (.t 10)⟩,
              ⟨(some 12), none, .bin .lss (.t 9) (.t 11)⟩])
            (.cond (.t 12)
             .skip
             (.exit 0)))
           (.seq
            (.block 1
             (.seq
              (.ops true [0, 0, 0, 6, 14, 0, 63] [
                ⟨(some 15), none, .ld (some 3) (.t 1)⟩,
                ⟨(some 16), none, .mov (.t 4)⟩,
                ⟨(some 17), none, .mov (.t 5)⟩,
                ⟨(some 18), none, .iad 1 (.t 16) (.t 17)⟩,
                ⟨(some 19), none, .ld none (.t 18)⟩,
                ⟨(some 20), none, .mov (.t 4)⟩,
                ⟨(some 21), none, .call 79 [(.t 15), (.t 19), (.t 20)]⟩])
              (.cond (.t 21)
               (.ops false [] [
                 ⟨(some 22), none, .mov (.t 3)⟩,
                 ⟨(some 23), none, .mov (.t 4)⟩,
                 ⟨(some 24), none, .mov (.t 5)⟩,
                 ⟨(some 25), none, .iad 1 (.t 23) (.t 24)⟩,
                 ⟨(some 26), none, .ld none (.t 25)⟩,
                 ⟨(some 27), none, .bsl false 3 1 1 [(.d (.sc (.int .i64 0)))] [(0, 1, (.t 26))]⟩,
                 ⟨(some 28), none, .app false 3 1 8 (.t 22) (.t 27)⟩,
                 ⟨(some 3), none, .mov (.t 28)⟩])
               .skip)))
            (.ops false [] [
              ⟨(some 13), none, .mov (.t 5)⟩,
              ⟨(some 14), none, .bin .add (.t 13) (.c (.d (.sc (.int .i64 1))))⟩,
              ⟨(some 5), none, .mov (.t 14)⟩]))))))
       (.seq
        (.ops false [] [
          ⟨(some 29), none, .ld (some 3) (.t 1)⟩,
          ⟨(some 30), none, .mov (.t 3)⟩,
          ⟨(some 31), none, .call 80 [(.t 29), (.t 30)]⟩,
          ⟨(some 2), none, .mov (.t 31)⟩])
        .ret))))), [.tmp 2]⟩
theorem ok_refSettledM : compFn Tryz.prog [] 40 = some c_refSettledM := by kernel_rfl

def c_refSettled : CF := ⟨10,
   (.seq
    (.ops false [] [
      ⟨(some 1), none, .box (.t 0)⟩,
      ⟨(some 2), none, .mov (.c (.nil 1))⟩])
    (.seq
     (.seq
      (.ops false [] [
        ⟨(some 3), none, .ld (some 2) (.t 1)⟩,
        ⟨(some 4), none, .call 38 [(.t 3)]⟩,
        ⟨(some 5), none, .bin .neq (.t 4) (.c (.d (.sc (.int .i64 0))))⟩])
      (.cond (.t 5)
       (.seq
        (.ops false [] [
          ⟨(some 6), none, .bsl false 3 1 0 [] []⟩,
          ⟨(some 2), none, .mov (.t 6)⟩])
        .ret)
       .skip))
     (.seq
      (.ops false [] [
        ⟨(some 7), none, .ld (some 2) (.t 1)⟩,
        ⟨(some 8), none, .call 39 [(.t 7)]⟩,
        ⟨(some 9), none, .call 40 [(.t 8)]⟩,
        ⟨(some 2), none, .mov (.t 9)⟩])
      .ret))), [.tmp 2]⟩
theorem ok_refSettled : compFn Tryz.prog [] 11 = some c_refSettled := by kernel_rfl

def c_refGap : CF := ⟨56,
   (.seq
    (.ops false [] [
      ⟨(some 3), none, .box (.t 0)⟩,
      ⟨(some 6), none, .mov (.c (.nil 1))⟩])
    (.seq
     (.ops false [] [
       ⟨(some 12), none, .bsl false 3 1 0 [] []⟩,
       ⟨(some 7), none, .mov (.t 12)⟩])
     (.seq
      (.ops false [] [
        ⟨(some 13), none, .ld (some 3) (.t 3)⟩,
        ⟨(some 14), none, .call 78 [(.t 13)]⟩,
        ⟨(some 8), none, .mov (.t 14)⟩])
      (.seq
       (.seq
        (.ops false [] [
          ⟨(some 9), none, .mov (.c (.d (.sc (.int .i64 0))))⟩])
        (.block 0
         (.loop
          (.seq
           (.seq
            (.ops false [] [
              ⟨(some 15), none, .mov (.t 9)⟩,
              ⟨(some 16), none, .mov (.t 8)⟩,
              ⟨(some 17), none, .len (.t 16)⟩,
              ⟨(some 18), none, .bin .lss (.t 15) (.t 17)⟩])
            (.cond (.t 18)
             .skip
             (.exit 0)))
           (.seq
            (.block 1
             (.seq
              (.seq
               (.ops false [] [
                 ⟨(some 21), none, .mov (.t 1)⟩,
                 ⟨(some 22), none, .mov (.t 8)⟩,
                 ⟨(some 23), none, .mov (.t 9)⟩,
                 ⟨(some 24), none, .iad 1 (.t 22) (.t 23)⟩,
                 ⟨(some 25), none, .ld none (.t 24)⟩,
                 ⟨(some 26), none, .call 85 [(.t 21), (.t 25)]⟩])
               (.cond (.t 26)
                (.exit 1)
                .skip))
              (.seq
               (.ops false [] [
                 ⟨(some 10), none, .mov (.c (.d (.sc (.int .i64 0))))⟩])
               (.seq
                (.seq
                 (.ops false [] [
                   ⟨(some 11), none, .mov (.c (.d (.sc (.int .i64 0))))⟩])
                 (.block 2
                  (.loop
                   (.seq
                    (.seq
                     (.ops false [] [
                       ⟨(some 27), none, .mov (.t 11)⟩,
                       ⟨(some 28), none, .mov (.t 1)⟩,
                       ⟨(some 29), none, .len (.t 28)⟩,
                       ⟨(some 30), none, .bin .lss (.t 27) (.t 29)⟩])
                     (.cond (.t 30)
                      .skip
                      (.exit 2)))
                    (.seq
                     (.block 3
                      (.seq
                       (.ops true [0, 0, 0, 6, 14, 0, 0, 96, 224, 511] [
                         ⟨(some 33), none, .ld (some 3) (.t 3)⟩,
                         ⟨(some 34), none, .mov (.t 1)⟩,
                         ⟨(some 35), none, .mov (.t 11)⟩,
                         ⟨(some 36), none, .iad 1 (.t 34) (.t 35)⟩,
                         ⟨(some 37), none, .ld none (.t 36)⟩,
                         ⟨(some 38), none, .mov (.t 8)⟩,
                         ⟨(some 39), none, .mov (.t 9)⟩,
                         ⟨(some 40), none, .iad 1 (.t 38) (.t 39)⟩,
                         ⟨(some 41), none, .ld none (.t 40)⟩,
                         ⟨(some 42), none, .call 86 [(.t 33), (.t 37), (.t 41)]⟩])
                       (.cond (.t 42)
                        (.ops false [] [
                          ⟨(some 43), none, .mov (.t 10)⟩,
                          ⟨(some 44), none, .bin .add (.t 43) (.c (.d (.sc (.int .i64 1))))⟩,
                          ⟨(some 10), none, .mov (.t 44)⟩])
                        .skip)))
                     (.ops false [] [
                       ⟨(some 31), none, .mov (.t 11)⟩,
                       ⟨(some 32), none, .bin .add (.t 31) (.c (.d (.sc (.int .i64 1))))⟩,
                       ⟨(some 11), none, .mov (.t 32)⟩]))))))
                (.seq
                 (.ops false [] [
                   ⟨(some 45), none, .mov (.t 10)⟩,
                   ⟨(some 46), none, .mov (.t 2)⟩,
                   ⟨(some 47), none, .bin .eql (.t 45) (.t 46)⟩])
                 (.cond (.t 47)
                  (.ops false [] [
                    ⟨(some 48), none, .mov (.t 7)⟩,
                    ⟨(some 49), none, .mov (.t 8)⟩,
                    ⟨(some 50), none, .mov (.t 9)⟩,
                    ⟨(some 51), none, .iad 1 (.t 49) (.t 50)⟩,
                    ⟨(some 52), none, .ld none (.t 51)⟩,
                    ⟨(some 53), none, .bsl false 3 1 1 [(.d (.sc (.int .i64 0)))] [(0, 1, (.t 52))]⟩,
                    ⟨(some 54), none, .app false 3 1 8 (.t 48) (.t 53)⟩,
                    ⟨(some 7), none, .mov (.t 54)⟩])
                  .skip))))))
            (.ops false [] [
              ⟨(some 19), none, .mov (.t 9)⟩,
              ⟨(some 20), none, .bin .add (.t 19) (.c (.d (.sc (.int .i64 1))))⟩,
              ⟨(some 9), none, .mov (.t 20)⟩]))))))
       (.seq
        (.ops false [] [
          ⟨(some 55), none, .mov (.t 7)⟩,
          ⟨(some 6), none, .mov (.t 55)⟩])
        .ret))))), [.tmp 6]⟩
theorem ok_refGap : compFn Tryz.prog [] 44 = some c_refGap := by kernel_rfl

def c_refSide : CF := ⟨57,
   (.seq
    (.ops false [] [
      ⟨(some 2), none, .box (.t 0)⟩,
      ⟨(some 4), none, .mov (.c (.nil 1))⟩,
      ⟨(some 5), none, .mov (.c (.nil 1))⟩])
    (.seq
     (.ops true [0, 1, 3, 7, 0, 16, 15, 127] [
       ⟨(some 11), none, .mov (.t 1)⟩,
       ⟨(some 12), none, .iad 1 (.t 11) (.c (.d (.sc (.int .i64 0))))⟩,
       ⟨(some 13), none, .ld none (.t 12)⟩,
       ⟨(some 14), none, .bsl false 3 1 1 [(.d (.sc (.int .i64 0)))] [(0, 1, (.t 13))]⟩,
       ⟨(some 15), none, .mov (.t 1)⟩,
       ⟨(some 16), none, .slc 1 (.t 15) (some (.c (.d (.sc (.int .i64 1))))) none⟩,
       ⟨(some 6), none, .mov (.t 14)⟩,
       ⟨(some 7), none, .mov (.t 16)⟩])
     (.seq
      (.seq
       (.ops false [] [
         ⟨(some 8), none, .mov (.c (.d (.sc (.int .i64 0))))⟩])
       (.block 0
        (.loop
         (.seq
          (.seq
           (.ops false [] [
             ⟨(some 17), none, .mov (.t 8)⟩,
             ⟨(some 18), none, .mov (.t 6)⟩,
             ⟨(some 19), none, .len (.t 18)⟩,
             ⟨(some 20), none, .bin .lss (.t 17) (.t 19)⟩])
           (.cond (.t 20)
            .skip
            (.exit 0)))
          (.seq
           (.block 1
            (.seq
             (.ops false [] [
               ⟨(some 23), none, .bsl false 3 1 0 [] []⟩,
               ⟨(some 9), none, .mov (.t 23)⟩])
             (.seq
              (.seq
               (.ops false [] [
                 ⟨(some 10), none, .mov (.c (.d (.sc (.int .i64 0))))⟩])
               (.block 2
                (.loop
                 (.seq
                  (.seq
                   (.ops false [] [
                     ⟨(some 24), none, .mov (.t 10)⟩,
                     ⟨(some 25), none, .mov (.t 7)⟩,
                     ⟨(some 26), none, .len (.t 25)⟩,
                     ⟨(some 27), none, .bin .lss (.t 24) (.t 26)⟩])
                   (.cond (.t 27)
                    .skip
                    (.exit 2)))
                  (.seq
                   (.block 3
                    (.seq
                     (.ops true [0, 0, 0, 6, 14, 0, 0, 96, 224, 511] [
                       ⟨(some 30), none, .ld (some 3) (.t 2)⟩,
                       ⟨(some 31), none, .mov (.t 6)⟩,
                       ⟨(some 32), none, .mov (.t 8)⟩,
                       ⟨(some 33), none, .iad 1 (.t 31) (.t 32)⟩,
                       ⟨(some 34), none, .ld none (.t 33)⟩,
                       ⟨(some 35), none, .mov (.t 7)⟩,
                       ⟨(some 36), none, .mov (.t 10)⟩,
                       ⟨(some 37), none, .iad 1 (.t 35) (.t 36)⟩,
                       ⟨(some 38), none, .ld none (.t 37)⟩,
                       ⟨(some 39), none, .call 108 [(.t 30), (.t 34), (.t 38)]⟩])
                     (.cond (.t 39)
                      (.ops false [] [
                        ⟨(some 40), none, .mov (.t 6)⟩,
                        ⟨(some 41), none, .mov (.t 7)⟩,
                        ⟨(some 42), none, .mov (.t 10)⟩,
                        ⟨(some 43), none, .iad 1 (.t 41) (.t 42)⟩,
                        ⟨(some 44), none, .ld none (.t 43)⟩,
                        ⟨(some 45), none, .bsl false 3 1 1 [(.d (.sc (.int .i64 0)))] [(0, 1, (.t 44))]⟩,
                        ⟨(some 46), none, .app false 3 1 8 (.t 40) (.t 45)⟩,
                        ⟨(some 6), none, .mov (.t 46)⟩])
                      (.ops false [] [
                        ⟨(some 47), none, .mov (.t 9)⟩,
                        ⟨(some 48), none, .mov (.t 7)⟩,
                        ⟨(some 49), none, .mov (.t 10)⟩,
                        ⟨(some 50), none, .iad 1 (.t 48) (.t 49)⟩,
                        ⟨(some 51), none, .ld none (.t 50)⟩,
                        ⟨(some 52), none, .bsl false 3 1 1 [(.d (.sc (.int .i64 0)))] [(0, 1, (.t 51))]⟩,
                        ⟨(some 53), none, .app false 3 1 8 (.t 47) (.t 52)⟩,
                        ⟨(some 9), none, .mov (.t 53)⟩]))))
                   (.ops false [] [
                     ⟨(some 28), none, .mov (.t 10)⟩,
                     ⟨(some 29), none, .bin .add (.t 28) (.c (.d (.sc (.int .i64 1))))⟩,
                     ⟨(some 10), none, .mov (.t 29)⟩]))))))
              (.ops false [] [
                ⟨(some 54), none, .mov (.t 9)⟩,
                ⟨(some 7), none, .mov (.t 54)⟩]))))
           (.ops false [] [
             ⟨(some 21), none, .mov (.t 8)⟩,
             ⟨(some 22), none, .bin .add (.t 21) (.c (.d (.sc (.int .i64 1))))⟩,
             ⟨(some 8), none, .mov (.t 22)⟩]))))))
      (.seq
       (.ops false [] [
         ⟨(some 55), none, .mov (.t 6)⟩,
         ⟨(some 56), none, .mov (.t 7)⟩,
         ⟨(some 4), none, .mov (.t 55)⟩,
         ⟨(some 5), none, .mov (.t 56)⟩])
       .ret)))), [.tmp 4, .tmp 5]⟩
theorem ok_refSide : compFn Tryz.prog [] 87 = some c_refSide := by kernel_rfl

def c_refAscending : CF := ⟨48,
   (.seq
    (.ops false [] [
      ⟨(some 2), none, .mov (.c (.nil 1))⟩])
    (.seq
     (.ops false [] [
       ⟨(some 7), none, .bsl false 3 1 0 [] []⟩,
       ⟨(some 3), none, .mov (.t 7)⟩])
     (.seq
      (.seq
       (.ops false [] [
         ⟨(some 4), none, .mov (.c (.d (.sc (.int .i64 0))))⟩])
       (.block 0
        (.loop
         (.seq
          (.seq
           (.ops false [] [
             ⟨(some 8), none, .mov (.t 4)⟩,
             ⟨(some 9), none, .mov (.t 0)⟩,
             ⟨(some 10), none, .len (.t 9)⟩,
             ⟨(some 11), none, .bin .lss (.t 8) (.t 10)⟩])
           (.cond (.t 11)
            .skip
            (.exit 0)))
          (.seq
           (.block 1
            (.seq
             (.ops false [] [
               ⟨(some 5), none, .mov (.c (.d (.sc (.int .i64 0))))⟩])
             (.seq
              (.block 2
               (.loop
                (.seq
                 (.seq
                  (.ops true [0, 0, 2, 7, 15, 31, 31, 127, 255, 31, 31, 1567, 3615, 8191, 16383] [
                    ⟨(some 14), none, .mov (.t 5)⟩,
                    ⟨(some 15), none, .mov (.t 3)⟩,
                    ⟨(some 16), none, .len (.t 15)⟩,
                    ⟨(some 17), none, .bin .lss (.t 14) (.t 16)⟩,
                    ⟨(some 18), none, .mov (.t 17)⟩,
                    ⟨(some 19), (some ((some 18), true)), .mov (.t 3)⟩,
                    ⟨(some 20), (some ((some 18), true)), .mov (.t 5)⟩,
                    ⟨(some 21), (some ((some 18), true)), .iad 1 (.t 19) (.t 20)⟩,
                    ⟨(some 22), (some ((some 18), true)), .ld none (.t 21)⟩,
                    ⟨(some 23), (some ((some 18), true)), .mov (.t 0)⟩,
                    ⟨(some 24), (some ((some 18), true)), .mov (.t 4)⟩,
                    ⟨(some 25), (some ((some 18), true)), .iad 1 (.t 23) (.t 24)⟩,
                    ⟨(some 26), (some ((some 18), true)), .ld none (.t 25)⟩,
                    ⟨(some 27), (some ((some 18), true)), .bin .lss (.t 22) (.t 26)⟩,
                    ⟨(some 28), none, .pick (.t 18) (.t 27) (.c (.d (.sc (.bool false))))⟩])
                  (.cond (.t 28)
                   .skip
                   (.exit 2)))
                 (.block 3
                  (.ops false [] [
                    ⟨(some 29), none, .mov (.t 5)⟩,
                    ⟨(some 30), none, .bin .add (.t 29) (.c (.d (.sc (.int .i64 1))))⟩,
                    ⟨(some 5), none, .mov (.t 30)⟩])))))
              (.seq
               (.ops true [0, 0, 0, 6, 15, 0, 0, 96, 224, 480, 1023, 2047] [
                 ⟨(some 31), none, .bsl false 3 1 0 [] []⟩,
                 ⟨(some 32), none, .mov (.t 3)⟩,
                 ⟨(some 33), none, .mov (.t 5)⟩,
                 ⟨(some 34), none, .slc 1 (.t 32) none (some (.t 33))⟩,
                 ⟨(some 35), none, .app false 3 1 8 (.t 31) (.t 34)⟩,
                 ⟨(some 36), none, .mov (.t 0)⟩,
                 ⟨(some 37), none, .mov (.t 4)⟩,
                 ⟨(some 38), none, .iad 1 (.t 36) (.t 37)⟩,
                 ⟨(some 39), none, .ld none (.t 38)⟩,
                 ⟨(some 40), none, .bsf 1 1 [(.d (.sc (.int .i64 0)))] [(0, 1, (.t 39))]⟩,
                 ⟨(some 41), none, .app false 3 1 8 (.t 35) (.t 40)⟩,
                 ⟨(some 6), none, .mov (.t 41)⟩])
               (.ops false [] [
                 ⟨(some 42), none, .mov (.t 6)⟩,
                 ⟨(some 43), none, .mov (.t 3)⟩,
                 ⟨(some 44), none, .mov (.t 5)⟩,
                 ⟨(some 45), none, .slc 1 (.t 43) (some (.t 44)) none⟩,
                 ⟨(some 46), none, .app false 3 1 8 (.t 42) (.t 45)⟩,
                 ⟨(some 3), none, .mov (.t 46)⟩])))))
           (.ops false [] [
             ⟨(some 12), none, .mov (.t 4)⟩,
             ⟨(some 13), none, .bin .add (.t 12) (.c (.d (.sc (.int .i64 1))))⟩,
             ⟨(some 4), none, .mov (.t 13)⟩]))))))
      (.seq
       (.ops false [] [
         ⟨(some 47), none, .mov (.t 3)⟩,
         ⟨(some 2), none, .mov (.t 47)⟩])
       .ret)))), [.tmp 2]⟩
theorem ok_refAscending : compFn Tryz.prog [100040] 88 = some c_refAscending := by kernel_rfl

def c_refConflict : CF := ⟨29,
   (.seq
    (.ops false [] [
      ⟨(some 2), none, .box (.t 0)⟩,
      ⟨(some 4), none, .box (.c (.agg [(.d (.sc (.bool false))), (.nil 1), (.nil 1)]))⟩])
    (.seq
     (.ops false [] [
       ⟨(some 8), none, .bld [(.d (.sc (.bool false))), (.nil 1), (.nil 1)] [(0, 1, (.c (.d (.sc (.bool true)))))]⟩,
       ⟨(some 5), none, .box (.c (.agg [(.d (.sc (.bool false))), (.nil 1), (.nil 1)]))⟩,
       ⟨none, none, .st 3 (.t 5) (.t 8)⟩])
     (.seq
      (.block 0
       (.loop
        (.seq
         (.seq
          (.ops false [] [
            ⟨(some 9), none, .mov (.t 1)⟩,
            ⟨(some 10), none, .len (.t 9)⟩,
            ⟨(some 11), none, .bin .gtr (.t 10) (.c (.d (.sc (.int .i64 0))))⟩])
          (.cond (.t 11)
           .skip
           (.exit 0)))
         (.block 1
          (.seq
           (.ops false [] [
             ⟨(some 13), none, .ld (some 3) (.t 2)⟩,
             ⟨(some 14), none, .mov (.t 1)⟩,
             ⟨(some 15), none, .call 87 [(.t 13), (.t 14)]⟩,
             ⟨(some 12), none, .mov (.t 15)⟩,
             ⟨(some 16), none, .ext (.t 12) 0⟩,
             ⟨(some 17), none, .ext (.t 12) 1⟩,
             ⟨(some 6), none, .mov (.t 16)⟩,
             ⟨(some 7), none, .mov (.t 17)⟩])
           (.seq
            (.ops true [0, 1, 0, 0, 8, 28, 60, 127, 255, 511] [
              ⟨(some 18), none, .fad 2 (.t 5)⟩,
              ⟨(some 19), none, .ld none (.t 18)⟩,
              ⟨(some 20), none, .ld (some 3) (.t 2)⟩,
              ⟨(some 21), none, .mov (.t 6)⟩,
              ⟨(some 22), none, .call 88 [(.t 21)]⟩,
              ⟨(some 23), none, .call 80 [(.t 20), (.t 22)]⟩,
              ⟨(some 24), none, .bsl false 29 1 1 [(.nil 1)] [(0, 1, (.t 23))]⟩,
              ⟨(some 25), none, .app false 29 1 24 (.t 19) (.t 24)⟩,
              ⟨(some 26), none, .fad 2 (.t 5)⟩,
              ⟨none, none, .st 1 (.t 26) (.t 25)⟩])
            (.ops false [] [
              ⟨(some 27), none, .mov (.t 7)⟩,
              ⟨(some 1), none, .mov (.t 27)⟩])))))))
      (.seq
       (.ops false [] [
         ⟨(some 28), none, .ld (some 3) (.t 5)⟩,
         ⟨none, none, .st 3 (.t 4) (.t 28)⟩])
       .ret)))), [.cell 4 (some 3)]⟩
theorem ok_refConflict : compFn Tryz.prog [] 45 = some c_refConflict := by kernel_rfl

def c_refRegions : CF := ⟨70,
   (.seq
    (.ops false [] [
      ⟨(some 1), none, .box (.t 0)⟩,
      ⟨(some 2), none, .mov (.c (.nil 3))⟩])
    (.seq
     (.ops false [] [
       ⟨(some 9), none, .bsl false 45 3 0 [] []⟩,
       ⟨(some 3), none, .mov (.t 9)⟩])
     (.seq
      (.seq
       (.ops false [] [
         ⟨(some 10), none, .ld (some 2) (.t 1)⟩,
         ⟨(some 11), none, .call 38 [(.t 10)]⟩,
         ⟨(some 12), none, .bin .neq (.t 11) (.c (.d (.sc (.int .i64 0))))⟩])
       (.cond (.t 12)
        (.seq
         (.ops false [] [
           ⟨(some 13), none, .mov (.t 3)⟩,
           ⟨(some 2), none, .mov (.t 13)⟩])
         .ret)
        .skip))
      (.seq
       (.ops false [] [
         ⟨(some 14), none, .ld (some 2) (.t 1)⟩,
         ⟨(some 15), none, .call 39 [(.t 14)]⟩,
         ⟨(some 4), none, .box (.c (.agg [(.nil 35), (.nil 2), (.nil 1)]))⟩,
         ⟨none, none, .st 3 (.t 4) (.t 15)⟩])
       (.seq
        (.ops false [] [
          ⟨(some 16), none, .ld (some 3) (.t 4)⟩,
          ⟨(some 17), none, .call 40 [(.t 16)]⟩,
          ⟨(some 5), none, .mov (.t 17)⟩])
        (.seq
         (.ops false [] [
           ⟨(some 18), none, .bsl false 3 1 0 [] []⟩,
           ⟨(some 6), none, .mov (.t 18)⟩])
         (.seq
          (.seq
           (.ops false [] [
             ⟨(some 7), none, .mov (.c (.d (.sc (.int .i64 0))))⟩])
           (.block 0
            (.loop
             (.seq
              (.seq
               (.ops false [] [
                 ⟨(some 19), none, .mov (.t 7)⟩,
                 ⟨(some 20), none, .mov (.t 5)⟩,
                 ⟨(some 21), none, .len (.t 20)⟩,
                 ⟨(some 22), none, .bin .leq (.t 19) (.t 21)⟩])
               (.cond (.t 22)
                .skip
                (.exit 0)))
              (.seq
               (.block 1
                (.seq
                 (.ops false [] [
                   ⟨(some 25), none, .ld (some 3) (.t 4)⟩,
                   ⟨(some 26), none, .mov (.t 5)⟩,
                   ⟨(some 27), none, .mov (.t 7)⟩,
                   ⟨(some 28), none, .call 44 [(.t 25), (.t 26), (.t 27)]⟩,
                   ⟨(some 8), none, .mov (.t 28)⟩])
                 (.seq
                  (.seq
                   (.ops false [] [
                     ⟨(some 29), none, .mov (.t 8)⟩,
                     ⟨(some 30), none, .len (.t 29)⟩,
                     ⟨(some 31), none, .bin .gtr (.t 30) (.c (.d (.sc (.int .i64 0))))⟩,
                     ⟨(some 32), none, .mov (.t 31)⟩,
                     ⟨(some 33), (some ((some 32), false)), .mov (.t 7)⟩,
                     ⟨(some 34), (some ((some 32), false)), .mov (.t 5)⟩,
                     ⟨(some 35), (some ((some 32), false)), .len (.t 34)⟩,
                     ⟨(some 36), (some ((some 32), false)), .bin .eql (.t 33) (.t 35)⟩,
                     ⟨(some 37), none, .pick (.t 32) (.c (.d (.sc (.bool true)))) (.t 36)⟩])
                   (.cond (.t 37)
                    (.seq
                     (.seq
                      (.ops false [] [
                        ⟨(some 38), none, .mov (.t 6)⟩,
                        ⟨(some 39), none, .len (.t 38)⟩,
                        ⟨(some 40), none, .bin .gtr (.t 39) (.c (.d (.sc (.int .i64 0))))⟩])
                      (.cond (.t 40)
                       (.ops false [] [
                         ⟨(some 41), none, .mov (.t 3)⟩,
                         ⟨(some 42), none, .mov (.t 6)⟩,
                         ⟨(some 43), none, .bld [(.d (.sc (.bool false))), (.nil 1), (.nil 1)] [(1, 1, (.t 42))]⟩,
                         ⟨(some 44), none, .bsl false 45 3 1 [(.d (.sc (.bool false))), (.nil 1), (.nil 1)] [(0, 3, (.t 43))]⟩,
                         ⟨(some 45), none, .app false 45 3 56 (.t 41) (.t 44)⟩,
                         ⟨(some 3), none, .mov (.t 45)⟩])
                       .skip))
                     (.ops false [] [
                       ⟨(some 46), none, .bsl false 3 1 0 [] []⟩,
                       ⟨(some 6), none, .mov (.t 46)⟩]))
                    .skip))
                  (.seq
                   (.seq
                    (.ops false [] [
                      ⟨(some 47), none, .mov (.t 8)⟩,
                      ⟨(some 48), none, .len (.t 47)⟩,
                      ⟨(some 49), none, .bin .gtr (.t 48) (.c (.d (.sc (.int .i64 0))))⟩])
                    (.cond (.t 49)
                     (.ops false [] [
                       ⟨(some 50), none, .mov (.t 3)⟩,
                       ⟨(some 51), none, .ld (some 3) (.t 4)⟩,
                       ⟨(some 52), none, .mov (.t 8)⟩,
                       ⟨(some 53), none, .call 45 [(.t 51), (.t 52)]⟩,
                       ⟨(some 54), none, .bsl false 45 3 1 [(.d (.sc (.bool false))), (.nil 1), (.nil 1)] [(0, 3, (.t 53))]⟩,
                       ⟨(some 55), none, .app false 45 3 56 (.t 50) (.t 54)⟩,
                       ⟨(some 3), none, .mov (.t 55)⟩])
                     .skip))
                   (.seq
                    (.ops false [] [
                      ⟨(some 56), none, .mov (.t 7)⟩,
                      ⟨(some 57), none, .mov (.t 5)⟩,
                      ⟨(some 58), none, .len (.t 57)⟩,
                      ⟨(some 59), none, .bin .lss (.t 56) (.t 58)⟩])
                    (.cond (.t 59)
                     (.ops true [0, 0, 3, 0, 0, 24, 56, 120, 255, 511] [
                       ⟨(some 60), none, .bsl false 3 1 0 [] []⟩,
                       ⟨(some 61), none, .mov (.t 6)⟩,
                       ⟨(some 62), none, .app false 3 1 8 (.t 60) (.t 61)⟩,
                       ⟨(some 63), none, .mov (.t 5)⟩,
                       ⟨(some 64), none, .mov (.t 7)⟩,
                       ⟨(some 65), none, .iad 1 (.t 63) (.t 64)⟩,
                       ⟨(some 66), none, .ld none (.t 65)⟩,
                       ⟨(some 67), none, .bsf 1 1 [(.d (.sc (.int .i64 0)))] [(0, 1, (.t 66))]⟩,
                       ⟨(some 68), none, .app false 3 1 8 (.t 62) (.t 67)⟩,
                       ⟨(some 6), none, .mov (.t 68)⟩])
                     .skip))))))
               (.ops false [] [
                 ⟨(some 23), none, .mov (.t 7)⟩,
                 ⟨(some 24), none, .bin .add (.t 23) (.c (.d (.sc (.int .i64 1))))⟩,
                 ⟨(some 7), none, .mov (.t 24)⟩]))))))
          (.seq
           (.ops false [] [
             ⟨(some 69), none, .mov (.t 3)⟩,
             ⟨(some 2), none, .mov (.t 69)⟩])
           .ret)))))))), [.tmp 2]⟩
theorem ok_refRegions : compFn Tryz.prog [100067] 14 = some c_refRegions := by kernel_rfl

def c_refSequence : CF := ⟨23,
   (.seq
    (.ops false [] [
      ⟨(some 1), none, .box (.t 0)⟩,
      ⟨(some 2), none, .mov (.c (.nil 1))⟩])
    (.seq
     (.ops false [] [
       ⟨(some 6), none, .bsl false 3 1 0 [] []⟩,
       ⟨(some 3), none, .mov (.t 6)⟩])
     (.seq
      (.ops false [] [
        ⟨(some 7), none, .ld (some 2) (.t 1)⟩,
        ⟨(some 8), none, .call 14 [(.t 7)]⟩,
        ⟨(some 4), none, .mov (.t 8)⟩])
      (.seq
       (.seq
        (.ops false [] [
          ⟨(some 5), none, .mov (.c (.d (.sc (.int .i64 0))))⟩])
        (.block 0
         (.loop
          (.seq
           (.seq
            (.ops false [] [
              ⟨(some 9), none, .mov (.t 5)⟩,
              ⟨(some 10), none, .mov (.t 4)⟩,
              ⟨(some 11), none, .len (.t 10)⟩,
              ⟨(some 12), none, .bin .lss (.t 9) (.t 11)⟩])
            (.cond (.t 12)
             .skip
             (.exit 0)))
           (.seq
            (.block 1
             (.ops false [] [
               ⟨(some 15), none, .mov (.t 3)⟩,
               ⟨(some 16), none, .mov (.t 4)⟩,
               ⟨(some 17), none, .mov (.t 5)⟩,
               ⟨(some 18), none, .iad 3 (.t 16) (.t 17)⟩,
               ⟨(some 19), none, .ld (some 3) (.t 18)⟩,
               ⟨(some 20), none, .call 47 [(.t 19)]⟩,
               ⟨(some 21), none, .app false 3 1 8 (.t 15) (.t 20)⟩,
               ⟨(some 3), none, .mov (.t 21)⟩]))
            (.ops false [] [
              ⟨(some 13), none, .mov (.t 5)⟩,
              ⟨(some 14), none, .bin .add (.t 13) (.c (.d (.sc (.int .i64 1))))⟩,
              ⟨(some 5), none, .mov (.t 14)⟩]))))))
       (.seq
        (.ops false [] [
          ⟨(some 22), none, .mov (.t 3)⟩,
          ⟨(some 2), none, .mov (.t 22)⟩])
        .ret))))), [.tmp 2]⟩
theorem ok_refSequence : compFn Tryz.prog [] 16 = some c_refSequence := by kernel_rfl

def c_refOf : CF := ⟨7,
   (.seq
    (.ops false [] [
      ⟨(some 1), none, .box (.t 0)⟩,
      ⟨(some 2), none, .box (.c (.agg [(.nil 35), (.nil 2), (.nil 1)]))⟩])
    (.seq
     (.ops true [0, 0, 2, 7, 15] [
       ⟨(some 3), none, .ld (some 2) (.t 1)⟩,
       ⟨(some 4), none, .ld (some 2) (.t 1)⟩,
       ⟨(some 5), none, .call 77 [(.t 4)]⟩,
       ⟨(some 6), none, .bld [(.nil 35), (.nil 2), (.nil 1)] [(0, 2, (.t 3)), (2, 1, (.t 5))]⟩,
       ⟨none, none, .st 3 (.t 2) (.t 6)⟩])
     .ret)), [.cell 2 (some 3)]⟩
theorem ok_refOf : compFn Tryz.prog [] 39 = some c_refOf := by kernel_rfl

def c_refReaches : CF := ⟨104,
   (.seq
    (.ops false [] [
      ⟨(some 1), none, .box (.t 0)⟩,
      ⟨(some 2), none, .mov (.c (.nil 1))⟩])
    (.seq
     (.ops false [] [
       ⟨(some 11), none, .bsl true 140 1 0 [] []⟩,
       ⟨(some 3), none, .mov (.t 11)⟩])
     (.seq
      (.seq
       (.ops false [] [
         ⟨(some 12), none, .ld (some 2) (.t 1)⟩,
         ⟨(some 13), none, .call 38 [(.t 12)]⟩,
         ⟨(some 14), none, .bin .neq (.t 13) (.c (.d (.sc (.int .i64 0))))⟩])
       (.cond (.t 14)
        (.seq
         (.ops false [] [
           ⟨(some 15), none, .mov (.t 3)⟩,
           ⟨(some 2), none, .mov (.t 15)⟩])
         .ret)
        .skip))
      (.seq
       (.ops false [] [
         ⟨(some 16), none, .fad 0 (.t 1)⟩,
         ⟨(some 17), none, .ld none (.t 16)⟩,
         ⟨(some 18), none, .len (.t 17)⟩,
         ⟨(some 4), none, .mov (.t 18)⟩])
       (.seq
        (.seq
         (.ops false [] [
           ⟨(some 5), none, .mov (.c (.d (.sc (.int .i64 0))))⟩])
         (.block 0
          (.loop
           (.seq
            (.seq
             (.ops false [] [
               ⟨(some 19), none, .mov (.t 5)⟩,
               ⟨(some 20), none, .mov (.t 4)⟩,
               ⟨(some 21), none, .bin .lss (.t 19) (.t 20)⟩])
             (.cond (.t 21)
              .skip
              (.exit 0)))
            (.seq
             (.block 1
              (.ops false [] [
                ⟨(some 24), none, .mov (.t 3)⟩,
                ⟨(some 25), none, .mov (.t 4)⟩,
                ⟨(some 26), none, .mks true 4 1 (.d (.sc (.bool false))) (.t 25) (.t 25)⟩,
                ⟨(some 27), none, .bsl true 140 1 1 [(.nil 1)] [(0, 1, (.t 26))]⟩,
                ⟨(some 28), none, .app false 140 1 24 (.t 24) (.t 27)⟩,
                ⟨(some 3), none, .mov (.t 28)⟩]))
             (.ops false [] [
               ⟨(some 22), none, .mov (.t 5)⟩,
               ⟨(some 23), none, .bin .add (.t 22) (.c (.d (.sc (.int .i64 1))))⟩,
               ⟨(some 5), none, .mov (.t 23)⟩]))))))
        (.seq
         (.seq
          (.ops false [] [
            ⟨(some 6), none, .mov (.c (.d (.sc (.int .i64 0))))⟩])
          (.block 2
           (.loop
            (.seq
             (.seq
              (.ops false [] [
                ⟨(some 29), none, .mov (.t 6)⟩,
                ⟨(some 30), none, .fad 1 (.t 1)⟩,
                ⟨(some 31), none, .ld none (.t 30)⟩,
                ⟨(some 32), none, .len (.t 31)⟩,
                ⟨(some 33), none, .bin .lss (.t 29) (.t 32)⟩])
              (.cond (.t 33)
               .skip
               (.exit 2)))
             (.seq
              (.block 3
               (.seq
                (.ops false [] [
                  ⟨(some 36), none, .fad 1 (.t 1)⟩,
                  ⟨(some 37), none, .ld none (.t 36)⟩,
                  ⟨(some 38), none, .mov (.t 6)⟩,
                  ⟨(some 39), none, .iad 2 (.t 37) (.t 38)⟩,
                  ⟨(some 40), none, .ld (some 2) (.t 39)⟩,
                  ⟨(some 7), none, .box (.c (.agg [(.d (.sc (.int .i64 0))), (.d (.sc (.int .i64 0)))]))⟩,
                  ⟨none, none, .st 2 (.t 7) (.t 40)⟩])
                (.seq
                 (.ops false [] [
                   ⟨(some 41), none, .fad 0 (.t 7)⟩,
                   ⟨(some 42), none, .ld none (.t 41)⟩,
                   ⟨(some 43), none, .bin .geq (.t 42) (.c (.d (.sc (.int .i64 0))))⟩,
                   ⟨(some 44), none, .mov (.t 43)⟩,
                   ⟨(some 45), (some ((some 44), true)), .fad 1 (.t 7)⟩,
                   ⟨(some 46), (some ((some 44), true)), .ld none (.t 45)⟩,
                   ⟨(some 47), (some ((some 44), true)), .bin .geq (.t 46) (.c (.d (.sc (.int .i64 0))))⟩,
                   ⟨(some 48), none, .pick (.t 44) (.t 47) (.c (.d (.sc (.bool false))))⟩])
                 (.cond (.t 48)
                  (.ops true [0, 0, 2, 7, 15, 0, 32, 127, 255] [
                    ⟨(some 49), none, .mov (.t 3)⟩,
                    ⟨(some 50), none, .fad 0 (.t 7)⟩,
                    ⟨(some 51), none, .ld none (.t 50)⟩,
                    ⟨(some 52), none, .iad 1 (.t 49) (.t 51)⟩,
                    ⟨(some 53), none, .ld none (.t 52)⟩,
                    ⟨(some 54), none, .fad 1 (.t 7)⟩,
                    ⟨(some 55), none, .ld none (.t 54)⟩,
                    ⟨(some 56), none, .iad 1 (.t 53) (.t 55)⟩,
                    ⟨none, none, .st 1 (.t 56) (.c (.d (.sc (.bool true))))⟩])
                  .skip))))
              (.ops false [] [
                ⟨(some 34), none, .mov (.t 6)⟩,
                ⟨(some 35), none, .bin .add (.t 34) (.c (.d (.sc (.int .i64 1))))⟩,
                ⟨(some 6), none, .mov (.t 35)⟩]))))))
         (.seq
          (.seq
           (.ops false [] [
             ⟨(some 8), none, .mov (.c (.d (.sc (.int .i64 0))))⟩])
           (.block 4
            (.loop
             (.seq
              (.seq
               (.ops false [] [
                 ⟨(some 57), none, .mov (.t 8)⟩,
                 ⟨(some 58), none, .mov (.t 4)⟩,
                 ⟨(some 59), none, .bin .lss (.t 57) (.t 58)⟩])
               (.cond (.t 59)
                .skip
                (.exit 4)))
              (.seq
               (.block 5
                (.seq
                 (.ops false [] [
                   ⟨(some 9), none, .mov (.c (.d (.sc (.int .i64 0))))⟩])
                 (.block 6
                  (.loop
                   (.seq
                    (.seq
                     (.ops false [] [
                       ⟨(some 62), none, .mov (.t 9)⟩,
                       ⟨(some 63), none, .mov (.t 4)⟩,
                       ⟨(some 64), none, .bin .lss (.t 62) (.t 63)⟩])
                     (.cond (.t 64)
                      .skip
                      (.exit 6)))
                    (.seq
                     (.block 7
                      (.seq
                       (.ops false [] [
                         ⟨(some 10), none, .mov (.c (.d (.sc (.int .i64 0))))⟩])
                       (.block 8
                        (.loop
                         (.seq
                          (.seq
                           (.ops false [] [
                             ⟨(some 67), none, .mov (.t 10)⟩,
                             ⟨(some 68), none, .mov (.t 4)⟩,
                             ⟨(some 69), none, .bin .lss (.t 67) (.t 68)⟩])
                           (.cond (.t 69)
                            .skip
                            (.exit 8)))
                          (.seq
                           (.block 9
                            (.ops true [0, 0, 3, 7, 0, 0, 0, 96, 224, 0, 992, 2016, 4064, 8160, 8160, 32736, 65504, 8160, 262112, 524256, 1048544, 2097120, 2097120, 8388576, 16777184, 2097120, 67108832, 134217696, 268435424, 536870880, 1073741823, 2147483647] [
                              ⟨(some 72), none, .mov (.t 3)⟩,
                              ⟨(some 73), none, .mov (.t 9)⟩,
                              ⟨(some 74), none, .iad 1 (.t 72) (.t 73)⟩,
                              ⟨(some 75), none, .ld none (.t 74)⟩,
                              ⟨(some 76), none, .mov (.t 10)⟩,
                              ⟨(some 77), none, .mov (.t 3)⟩,
                              ⟨(some 78), none, .mov (.t 9)⟩,
                              ⟨(some 79), none, .iad 1 (.t 77) (.t 78)⟩,
                              ⟨(some 80), none, .ld none (.t 79)⟩,
                              ⟨(some 81), none, .mov (.t 10)⟩,
                              ⟨(some 82), none, .iad 1 (.t 80) (.t 81)⟩,
                              ⟨(some 83), none, .ld none (.t 82)⟩,
                              ⟨(some 84), none, .mov (.t 83)⟩,
                              ⟨(some 85), (some ((some 84), false)), .mov (.t 3)⟩,
                              ⟨(some 86), (some ((some 84), false)), .mov (.t 9)⟩,
                              ⟨(some 87), (some ((some 84), false)), .iad 1 (.t 85) (.t 86)⟩,
                              ⟨(some 88), (some ((some 84), false)), .ld none (.t 87)⟩,
                              ⟨(some 89), (some ((some 84), false)), .mov (.t 8)⟩,
                              ⟨(some 90), (some ((some 84), false)), .iad 1 (.t 88) (.t 89)⟩,
                              ⟨(some 91), (some ((some 84), false)), .ld none (.t 90)⟩,
                              ⟨(some 92), (some ((some 84), false)), .mov (.t 91)⟩,
                              ⟨(some 93), (some ((some 92), true)), .mov (.t 3)⟩,
                              ⟨(some 94), (some ((some 92), true)), .mov (.t 8)⟩,
                              ⟨(some 95), (some ((some 92), true)), .iad 1 (.t 93) (.t 94)⟩,
                              ⟨(some 96), (some ((some 92), true)), .ld none (.t 95)⟩,
                              ⟨(some 97), (some ((some 92), true)), .mov (.t 10)⟩,
                              ⟨(some 98), (some ((some 92), true)), .iad 1 (.t 96) (.t 97)⟩,
                              ⟨(some 99), (some ((some 92), true)), .ld none (.t 98)⟩,
                              ⟨(some 100), (some ((some 84), false)), .pick (.t 92) (.t 99) (.c (.d (.sc (.bool false))))⟩,
                              ⟨(some 101), none, .pick (.t 84) (.c (.d (.sc (.bool true)))) (.t 100)⟩,
                              ⟨(some 102), none, .iad 1 (.t 75) (.t 76)⟩,
                              ⟨none, none, .st 1 (.t 102) (.t 101)⟩]))
                           (.ops false [] [
                             ⟨(some 70), none, .mov (.t 10)⟩,
                             ⟨(some 71), none, .bin .add (.t 70) (.c (.d (.sc (.int .i64 1))))⟩,
                             ⟨(some 10), none, .mov (.t 71)⟩])))))))
                     (.ops false [] [
                       ⟨(some 65), none, .mov (.t 9)⟩,
                       ⟨(some 66), none, .bin .add (.t 65) (.c (.d (.sc (.int .i64 1))))⟩,
                       ⟨(some 9), none, .mov (.t 66)⟩])))))))
               (.ops false [] [
                 ⟨(some 60), none, .mov (.t 8)⟩,
                 ⟨(some 61), none, .bin .add (.t 60) (.c (.d (.sc (.int .i64 1))))⟩,
                 ⟨(some 8), none, .mov (.t 61)⟩]))))))
          (.seq
           (.ops false [] [
             ⟨(some 103), none, .mov (.t 3)⟩,
             ⟨(some 2), none, .mov (.t 103)⟩])
           .ret)))))))), [.tmp 2]⟩
theorem ok_refReaches : compFn Tryz.prog [11, 26, 27] 77 = some c_refReaches := by kernel_rfl

def c_refLines : CF := ⟨24,
   (.seq
    (.ops false [] [
      ⟨(some 1), none, .box (.t 0)⟩,
      ⟨(some 2), none, .mov (.c (.nil 1))⟩])
    (.seq
     (.ops false [] [
       ⟨(some 5), none, .bsl false 3 1 0 [] []⟩,
       ⟨(some 6), none, .fad 1 (.t 1)⟩,
       ⟨(some 7), none, .ld none (.t 6)⟩,
       ⟨(some 8), none, .app false 3 1 8 (.t 5) (.t 7)⟩,
       ⟨(some 3), none, .mov (.t 8)⟩])
     (.seq
      (.seq
       (.ops false [] [
         ⟨(some 4), none, .mov (.c (.d (.sc (.int .i64 0))))⟩])
       (.block 0
        (.loop
         (.seq
          (.seq
           (.ops false [] [
             ⟨(some 9), none, .mov (.t 4)⟩,
             ⟨(some 10), none, .fad 2 (.t 1)⟩,
             ⟨(some 11), none, .ld none (.t 10)⟩,
             ⟨(some 12), none, .len (.t 11)⟩,
             ⟨(some 13), none, .bin .lss (.t 9) (.t 12)⟩])
           (.cond (.t 13)
            .skip
            (.exit 0)))
          (.seq
           (.block 1
            (.ops false [] [
              ⟨(some 16), none, .mov (.t 3)⟩,
              ⟨(some 17), none, .fad 2 (.t 1)⟩,
              ⟨(some 18), none, .ld none (.t 17)⟩,
              ⟨(some 19), none, .mov (.t 4)⟩,
              ⟨(some 20), none, .iad 1 (.t 18) (.t 19)⟩,
              ⟨(some 21), none, .ld none (.t 20)⟩,
              ⟨(some 22), none, .app false 3 1 8 (.t 16) (.t 21)⟩,
              ⟨(some 3), none, .mov (.t 22)⟩]))
           (.ops false [] [
             ⟨(some 14), none, .mov (.t 4)⟩,
             ⟨(some 15), none, .bin .add (.t 14) (.c (.d (.sc (.int .i64 1))))⟩,
             ⟨(some 4), none, .mov (.t 15)⟩]))))))
      (.seq
       (.ops false [] [
         ⟨(some 23), none, .mov (.t 3)⟩,
         ⟨(some 2), none, .mov (.t 23)⟩])
       .ret)))), [.tmp 2]⟩
theorem ok_refLines : compFn Tryz.prog [] 47 = some c_refLines := by kernel_rfl

def c_refSameInts : CF := ⟨26,
   (.seq
    (.ops false [] [
      ⟨(some 4), none, .mov (.c (.d (.sc (.bool false))))⟩])
    (.seq
     (.seq
      (.ops false [] [
        ⟨(some 6), none, .mov (.t 0)⟩,
        ⟨(some 7), none, .len (.t 6)⟩,
        ⟨(some 8), none, .mov (.t 1)⟩,
        ⟨(some 9), none, .len (.t 8)⟩,
        ⟨(some 10), none, .bin .neq (.t 7) (.t 9)⟩])
      (.cond (.t 10)
       (.seq
        (.ops false [] [
          ⟨(some 4), none, .mov (.c (.d (.sc (.bool false))))⟩])
        .ret)
       .skip))
     (.seq
      (.seq
       (.ops false [] [
         ⟨(some 5), none, .mov (.c (.d (.sc (.int .i64 0))))⟩])
       (.block 0
        (.loop
         (.seq
          (.seq
           (.ops false [] [
             ⟨(some 11), none, .mov (.t 5)⟩,
             ⟨(some 12), none, .mov (.t 0)⟩,
             ⟨(some 13), none, .len (.t 12)⟩,
             ⟨(some 14), none, .bin .lss (.t 11) (.t 13)⟩])
           (.cond (.t 14)
            .skip
            (.exit 0)))
          (.seq
           (.block 1
            (.seq
             (.ops true [0, 0, 3, 7, 0, 0, 48, 112, 255] [
               ⟨(some 17), none, .mov (.t 0)⟩,
               ⟨(some 18), none, .mov (.t 5)⟩,
               ⟨(some 19), none, .iad 1 (.t 17) (.t 18)⟩,
               ⟨(some 20), none, .ld none (.t 19)⟩,
               ⟨(some 21), none, .mov (.t 1)⟩,
               ⟨(some 22), none, .mov (.t 5)⟩,
               ⟨(some 23), none, .iad 1 (.t 21) (.t 22)⟩,
               ⟨(some 24), none, .ld none (.t 23)⟩,
               ⟨(some 25), none, .bin .neq (.t 20) (.t 24)⟩])
             (.cond (.t 25)
              (.seq
               (.ops false [] [
                 ⟨(some 4), none, .mov (.c (.d (.sc (.bool false))))⟩])
               .ret)
              .skip)))
           (.ops false [] [
             ⟨(some 15), none, .mov (.t 5)⟩,
             ⟨(some 16), none, .bin .add (.t 15) (.c (.d (.sc (.int .i64 1))))⟩,
             ⟨(some 5), none, .mov (.t 16)⟩]))))))
      (.seq
       (.ops false [] [
         ⟨(some 4), none, .mov (.c (.d (.sc (.bool true))))⟩])
       .ret)))), [.tmp 4]⟩
theorem ok_refSameInts : compFn Tryz.prog [] 9 = some c_refSameInts := by kernel_rfl

def c_refSame : CF := ⟨56,
   (.seq
    (.ops false [] [
      ⟨(some 4), none, .mov (.c (.d (.sc (.bool false))))⟩])
    (.seq
     (.seq
      (.ops false [] [
        ⟨(some 6), none, .mov (.t 0)⟩,
        ⟨(some 7), none, .len (.t 6)⟩,
        ⟨(some 8), none, .mov (.t 1)⟩,
        ⟨(some 9), none, .len (.t 8)⟩,
        ⟨(some 10), none, .bin .neq (.t 7) (.t 9)⟩])
      (.cond (.t 10)
       (.seq
        (.ops false [] [
          ⟨(some 4), none, .mov (.c (.d (.sc (.bool false))))⟩])
        .ret)
       .skip))
     (.seq
      (.seq
       (.ops false [] [
         ⟨(some 5), none, .mov (.c (.d (.sc (.int .i64 0))))⟩])
       (.block 0
        (.loop
         (.seq
          (.seq
           (.ops false [] [
             ⟨(some 11), none, .mov (.t 5)⟩,
             ⟨(some 12), none, .mov (.t 0)⟩,
             ⟨(some 13), none, .len (.t 12)⟩,
             ⟨(some 14), none, .bin .lss (.t 11) (.t 13)⟩])
           (.cond (.t 14)
            .skip
            (.exit 0)))
          (.seq
           (.block 1
            (.seq
             (.ops true [0, 0, 3, 7, 15, 0, 0, 96, 224, 480, 1023, 2047, 4095, 4095, 16383, 32767, 65535, 4095, 4095, 397311, 921599, 1970175, 4194303, 8388607, 16777215, 33554431, 67108863, 67108863, 268435455, 536870911, 1073741823, 67108863, 67108863, 6509559807, 15099494399, 32279363583, 68719476735, 137438953471, 274877906943] [
               ⟨(some 17), none, .mov (.t 0)⟩,
               ⟨(some 18), none, .mov (.t 5)⟩,
               ⟨(some 19), none, .iad 3 (.t 17) (.t 18)⟩,
               ⟨(some 20), none, .fad 0 (.t 19)⟩,
               ⟨(some 21), none, .ld none (.t 20)⟩,
               ⟨(some 22), none, .mov (.t 1)⟩,
               ⟨(some 23), none, .mov (.t 5)⟩,
               ⟨(some 24), none, .iad 3 (.t 22) (.t 23)⟩,
               ⟨(some 25), none, .fad 0 (.t 24)⟩,
               ⟨(some 26), none, .ld none (.t 25)⟩,
               ⟨(some 27), none, .bin .neq (.t 21) (.t 26)⟩,
               ⟨(some 28), none, .mov (.t 27)⟩,
               ⟨(some 29), (some ((some 28), false)), .mov (.t 0)⟩,
               ⟨(some 30), (some ((some 28), false)), .mov (.t 5)⟩,
               ⟨(some 31), (some ((some 28), false)), .iad 3 (.t 29) (.t 30)⟩,
               ⟨(some 32), (some ((some 28), false)), .fad 1 (.t 31)⟩,
               ⟨(some 33), (some ((some 28), false)), .ld none (.t 32)⟩,
               ⟨(some 34), (some ((some 28), false)), .mov (.t 1)⟩,
               ⟨(some 35), (some ((some 28), false)), .mov (.t 5)⟩,
               ⟨(some 36), (some ((some 28), false)), .iad 3 (.t 34) (.t 35)⟩,
               ⟨(some 37), (some ((some 28), false)), .fad 1 (.t 36)⟩,
               ⟨(some 38), (some ((some 28), false)), .ld none (.t 37)⟩,
               ⟨(some 39), (some ((some 28), false)), .call 9 [(.t 33), (.t 38)]⟩,
               ⟨(some 40), (some ((some 28), false)), .not (.t 39)⟩,
               ⟨(some 41), none, .pick (.t 28) (.c (.d (.sc (.bool true)))) (.t 40)⟩,
               ⟨(some 42), none, .mov (.t 41)⟩,
               ⟨(some 43), (some ((some 42), false)), .mov (.t 0)⟩,
               ⟨(some 44), (some ((some 42), false)), .mov (.t 5)⟩,
               ⟨(some 45), (some ((some 42), false)), .iad 3 (.t 43) (.t 44)⟩,
               ⟨(some 46), (some ((some 42), false)), .fad 2 (.t 45)⟩,
               ⟨(some 47), (some ((some 42), false)), .ld none (.t 46)⟩,
               ⟨(some 48), (some ((some 42), false)), .mov (.t 1)⟩,
               ⟨(some 49), (some ((some 42), false)), .mov (.t 5)⟩,
               ⟨(some 50), (some ((some 42), false)), .iad 3 (.t 48) (.t 49)⟩,
               ⟨(some 51), (some ((some 42), false)), .fad 2 (.t 50)⟩,
               ⟨(some 52), (some ((some 42), false)), .ld none (.t 51)⟩,
               ⟨(some 53), (some ((some 42), false)), .call 41 [(.t 47), (.t 52)]⟩,
               ⟨(some 54), (some ((some 42), false)), .not (.t 53)⟩,
               ⟨(some 55), none, .pick (.t 42) (.c (.d (.sc (.bool true)))) (.t 54)⟩])
             (.cond (.t 55)
              (.seq
               (.ops false [] [
                 ⟨(some 4), none, .mov (.c (.d (.sc (.bool false))))⟩])
               .ret)
              .skip)))
           (.ops false [] [
             ⟨(some 15), none, .mov (.t 5)⟩,
             ⟨(some 16), none, .bin .add (.t 15) (.c (.d (.sc (.int .i64 1))))⟩,
             ⟨(some 5), none, .mov (.t 16)⟩]))))))
      (.seq
       (.ops false [] [
         ⟨(some 4), none, .mov (.c (.d (.sc (.bool true))))⟩])
       .ret)))), [.tmp 4]⟩
theorem ok_refSame : compFn Tryz.prog [] 12 = some c_refSame := by kernel_rfl

def c_refSameInts21 : CF := ⟨53,
   (.seq
    (.ops false [] [
      ⟨(some 4), none, .mov (.c (.d (.sc (.bool false))))⟩])
    (.seq
     (.seq
      (.ops false [] [
        ⟨(some 7), none, .mov (.t 0)⟩,
        ⟨(some 8), none, .len (.t 7)⟩,
        ⟨(some 9), none, .mov (.t 1)⟩,
        ⟨(some 10), none, .len (.t 9)⟩,
        ⟨(some 11), none, .bin .neq (.t 8) (.t 10)⟩])
      (.cond (.t 11)
       (.seq
        (.ops false [] [
          ⟨(some 4), none, .mov (.c (.d (.sc (.bool false))))⟩])
        .ret)
       .skip))
     (.seq
      (.seq
       (.ops false [] [
         ⟨(some 5), none, .mov (.c (.d (.sc (.int .i64 0))))⟩])
       (.block 0
        (.loop
         (.seq
          (.seq
           (.ops false [] [
             ⟨(some 12), none, .mov (.t 5)⟩,
             ⟨(some 13), none, .mov (.t 0)⟩,
             ⟨(some 14), none, .len (.t 13)⟩,
             ⟨(some 15), none, .bin .lss (.t 12) (.t 14)⟩])
           (.cond (.t 15)
            .skip
            (.exit 0)))
          (.seq
           (.block 1
            (.seq
             (.seq
              (.ops true [0, 0, 3, 7, 15, 0, 0, 96, 224, 480, 1023] [
                ⟨(some 18), none, .mov (.t 0)⟩,
                ⟨(some 19), none, .mov (.t 5)⟩,
                ⟨(some 20), none, .iad 1 (.t 18) (.t 19)⟩,
                ⟨(some 21), none, .ld none (.t 20)⟩,
                ⟨(some 22), none, .len (.t 21)⟩,
                ⟨(some 23), none, .mov (.t 1)⟩,
                ⟨(some 24), none, .mov (.t 5)⟩,
                ⟨(some 25), none, .iad 1 (.t 23) (.t 24)⟩,
                ⟨(some 26), none, .ld none (.t 25)⟩,
                ⟨(some 27), none, .len (.t 26)⟩,
                ⟨(some 28), none, .bin .neq (.t 22) (.t 27)⟩])
              (.cond (.t 28)
               (.seq
                (.ops false [] [
                  ⟨(some 4), none, .mov (.c (.d (.sc (.bool false))))⟩])
                .ret)
               .skip))
             (.seq
              (.ops false [] [
                ⟨(some 6), none, .mov (.c (.d (.sc (.int .i64 0))))⟩])
              (.block 2
               (.loop
                (.seq
                 (.seq
                  (.ops false [] [
                    ⟨(some 29), none, .mov (.t 6)⟩,
                    ⟨(some 30), none, .mov (.t 0)⟩,
                    ⟨(some 31), none, .mov (.t 5)⟩,
                    ⟨(some 32), none, .iad 1 (.t 30) (.t 31)⟩,
                    ⟨(some 33), none, .ld none (.t 32)⟩,
                    ⟨(some 34), none, .len (.t 33)⟩,
                    ⟨(some 35), none, .bin .lss (.t 29) (.t 34)⟩])
                  (.cond (.t 35)
                   .skip
                   (.exit 2)))
                 (.seq
                  (.block 3
                   (.seq
                    (.ops true [0, 0, 3, 7, 0, 31, 63, 0, 0, 384, 896, 0, 3968, 8064, 16383] [
                      ⟨(some 38), none, .mov (.t 0)⟩,
                      ⟨(some 39), none, .mov (.t 5)⟩,
                      ⟨(some 40), none, .iad 1 (.t 38) (.t 39)⟩,
                      ⟨(some 41), none, .ld none (.t 40)⟩,
                      ⟨(some 42), none, .mov (.t 6)⟩,
                      ⟨(some 43), none, .iad 1 (.t 41) (.t 42)⟩,
                      ⟨(some 44), none, .ld none (.t 43)⟩,
                      ⟨(some 45), none, .mov (.t 1)⟩,
                      ⟨(some 46), none, .mov (.t 5)⟩,
                      ⟨(some 47), none, .iad 1 (.t 45) (.t 46)⟩,
                      ⟨(some 48), none, .ld none (.t 47)⟩,
                      ⟨(some 49), none, .mov (.t 6)⟩,
                      ⟨(some 50), none, .iad 1 (.t 48) (.t 49)⟩,
                      ⟨(some 51), none, .ld none (.t 50)⟩,
                      ⟨(some 52), none, .bin .neq (.t 44) (.t 51)⟩])
                    (.cond (.t 52)
                     (.seq
                      (.ops false [] [
                        ⟨(some 4), none, .mov (.c (.d (.sc (.bool false))))⟩])
                      .ret)
                     .skip)))
                  (.ops false [] [
                    ⟨(some 36), none, .mov (.t 6)⟩,
                    ⟨(some 37), none, .bin .add (.t 36) (.c (.d (.sc (.int .i64 1))))⟩,
                    ⟨(some 6), none, .mov (.t 37)⟩]))))))))
           (.ops false [] [
             ⟨(some 16), none, .mov (.t 5)⟩,
             ⟨(some 17), none, .bin .add (.t 16) (.c (.d (.sc (.int .i64 1))))⟩,
             ⟨(some 5), none, .mov (.t 17)⟩]))))))
      (.seq
       (.ops false [] [
         ⟨(some 4), none, .mov (.c (.d (.sc (.bool true))))⟩])
       .ret)))), [.tmp 4]⟩
theorem ok_refSameInts21 : compFn Tryz.prog [] 41 = some c_refSameInts21 := by kernel_rfl

end Go.Proofs.Lg
