/- The functions of the seat as formulas, each enough for its call (printed by seat.py of this session). Conditions: none. -/
import Derived.Test.YtpmpgmjllagomaaSeatAFore
set_option linter.unusedVariables false
set_option maxRecDepth 100000
namespace Go.Lt
open Go
/-- leat/schema.fetch: function 44. -/
def W.schema_fetch (Pn : PK) (K : Value → WP) (a0 : Value) : WP :=
  op PR Pn (S.fn F.schema_all [(.string { data := #[105, 110, 100, 101, 120] }), (.int .i64 3), (.slice none 0 0)]) fun x6 =>
  op PR Pn (S.alloc 60) fun x3 =>
  op PR Pn (S.store 60 x3 x6) fun _ =>
  op PR Pn (S.un .not a0) fun x8 =>
  ite' x8
  (J1 (fun x4 =>
      drawn <|
      lt PR (S.load 60 x4) fun x20 =>
      op PR Pn (S.fn F.schema_all [(.string { data := #[114, 101, 112, 108, 105, 99, 97] }), (.int .i64 3), (.slice none 0 0)]) fun x15 =>
      rc PR (S.load 60 x4) x20 <|
      op PR Pn (S.fn F.schema_all [(.string { data := #[119, 97, 105, 116] }), (.int .i64 3), (.slice none 0 0)]) fun x16 =>
      rc PR (S.load 60 x4) x20 <|
      op PR Pn (S.fn F.schema_all [(.string { data := #[109, 105, 110] }), (.int .i64 3), (.slice none 0 0)]) fun x17 =>
      rc PR (S.load 60 x4) x20 <|
      op PR Pn (S.fn F.schema_since [(.int .i64 1), (.string { data := #[109, 97, 120] }), (.int .i64 3), (.slice none 0 0)]) fun x18 =>
      rc PR (S.load 60 x4) x20 <|
      op PR Pn (S.fn F.schema_since [(.int .i64 2), (.string { data := #[108, 101, 118, 101, 108] }), (.int .i64 1), (.slice none 0 0)]) fun x19 =>
      rc PR (S.load 60 x4) x20 <|
      op PR Pn (S.bslice 22 6 [(0, x15), (1, x16), (2, x17), (3, x18), (4, x19), (5, x20)]) fun x21 =>
      lt PR (S.mv x21) fun x2 =>
      K x2)
    (fun xk =>
      drawn <|
      lt PR (S.load 60 x3) fun x9 =>
      also
        (op PR Pn (S.fn F.schema_since [(.int .i64 3), (.string { data := #[101, 112, 111, 99, 104] }), (.int .i64 3), (.slice none 0 0)]) fun x10 =>
          rc PR (S.load 60 x3) x9 <|
          also
            (op PR Pn (S.fn F.schema_all [(.string { data := #[111, 102, 102, 115, 101, 116] }), (.int .i64 4), (.slice none 0 0)]) fun x11 =>
              rc PR (S.load 60 x3) x9 <|
              also
                (op PR Pn (S.fn F.schema_all [(.string { data := #[109, 97, 120] }), (.int .i64 3), (.slice none 0 0)]) fun x12 =>
                  rc PR (S.load 60 x3) x9 <|
                  also
                    (op PR Pn (S.bslice 22 4 [(0, x9), (1, x10), (2, x11), (3, x12)]) fun x13 =>
                      also
                        (op PR Pn (S.fn F.schema_topics [x13]) fun x14 =>
                          op PR Pn (S.alloc 60) fun x4_1 =>
                          op PR Pn (S.store 60 x4_1 x14) fun _ =>
                          xk x4_1)
                        (op PR Pn (S.alloc 60) fun x4_2 =>
                          op PR Pn (S.fn F.schema_topics [x13]) fun x14_1 =>
                          op PR Pn (S.store 60 x4_2 x14_1) fun _ =>
                          xk x4_2))
                    (op PR Pn (S.alloc 60) fun x4_3 =>
                      rc PR (S.load 60 x3) x9 <|
                      op PR Pn (S.bslice 22 4 [(0, x9), (1, x10), (2, x11), (3, x12)]) fun x13_1 =>
                      op PR Pn (S.fn F.schema_topics [x13_1]) fun x14_2 =>
                      op PR Pn (S.store 60 x4_3 x14_2) fun _ =>
                      xk x4_3))
                (op PR Pn (S.alloc 60) fun x4_4 =>
                  rc PR (S.load 60 x3) x9 <|
                  op PR Pn (S.fn F.schema_all [(.string { data := #[109, 97, 120] }), (.int .i64 3), (.slice none 0 0)]) fun x12_1 =>
                  rc PR (S.load 60 x3) x9 <|
                  op PR Pn (S.bslice 22 4 [(0, x9), (1, x10), (2, x11), (3, x12_1)]) fun x13_2 =>
                  op PR Pn (S.fn F.schema_topics [x13_2]) fun x14_3 =>
                  op PR Pn (S.store 60 x4_4 x14_3) fun _ =>
                  xk x4_4))
            (op PR Pn (S.alloc 60) fun x4_5 =>
              rc PR (S.load 60 x3) x9 <|
              op PR Pn (S.fn F.schema_all [(.string { data := #[111, 102, 102, 115, 101, 116] }), (.int .i64 4), (.slice none 0 0)]) fun x11_1 =>
              rc PR (S.load 60 x3) x9 <|
              op PR Pn (S.fn F.schema_all [(.string { data := #[109, 97, 120] }), (.int .i64 3), (.slice none 0 0)]) fun x12_2 =>
              rc PR (S.load 60 x3) x9 <|
              op PR Pn (S.bslice 22 4 [(0, x9), (1, x10), (2, x11_1), (3, x12_2)]) fun x13_3 =>
              op PR Pn (S.fn F.schema_topics [x13_3]) fun x14_4 =>
              op PR Pn (S.store 60 x4_5 x14_4) fun _ =>
              xk x4_5))
        (op PR Pn (S.alloc 60) fun x4_6 =>
          rc PR (S.load 60 x3) x9 <|
          op PR Pn (S.fn F.schema_since [(.int .i64 3), (.string { data := #[101, 112, 111, 99, 104] }), (.int .i64 3), (.slice none 0 0)]) fun x10_1 =>
          rc PR (S.load 60 x3) x9 <|
          op PR Pn (S.fn F.schema_all [(.string { data := #[111, 102, 102, 115, 101, 116] }), (.int .i64 4), (.slice none 0 0)]) fun x11_2 =>
          rc PR (S.load 60 x3) x9 <|
          op PR Pn (S.fn F.schema_all [(.string { data := #[109, 97, 120] }), (.int .i64 3), (.slice none 0 0)]) fun x12_3 =>
          rc PR (S.load 60 x3) x9 <|
          op PR Pn (S.bslice 22 4 [(0, x9), (1, x10_1), (2, x11_2), (3, x12_3)]) fun x13_4 =>
          op PR Pn (S.fn F.schema_topics [x13_4]) fun x14_5 =>
          op PR Pn (S.store 60 x4_6 x14_5) fun _ =>
          xk x4_6)))
  (J1 (fun x5 =>
      drawn <|
      lt PR (S.load 60 x5) fun x31 =>
      op PR Pn (S.fn F.schema_since [(.int .i64 1), (.string { data := #[116, 104, 114, 111, 116, 116, 108, 101] }), (.int .i64 3), (.slice none 0 0)]) fun x30 =>
      rc PR (S.load 60 x5) x31 <|
      op PR Pn (S.bslice 22 2 [(0, x30), (1, x31)]) fun x32 =>
      lt PR (S.mv x32) fun x2_1 =>
      K x2_1)
    (fun xk_1 =>
      drawn <|
      lt PR (S.load 60 x3) fun x22 =>
      also
        (op PR Pn (S.fn F.schema_all [(.string { data := #[99, 111, 100, 101] }), (.int .i64 2), (.slice none 0 0)]) fun x23 =>
          rc PR (S.load 60 x3) x22 <|
          also
            (op PR Pn (S.fn F.schema_all [(.string { data := #[104, 105, 103, 104] }), (.int .i64 4), (.slice none 0 0)]) fun x24 =>
              rc PR (S.load 60 x3) x22 <|
              also
                (op PR Pn (S.fn F.schema_since [(.int .i64 2), (.string { data := #[115, 116, 97, 98, 108, 101] }), (.int .i64 4), (.slice none 0 0)]) fun x25 =>
                  rc PR (S.load 60 x3) x22 <|
                  also
                    (op PR Pn (S.fn F.schema_since [(.int .i64 3), (.string { data := #[115, 116, 97, 114, 116] }), (.int .i64 4), (.slice none 0 0)]) fun x26 =>
                      rc PR (S.load 60 x3) x22 <|
                      also
                        (op PR Pn (S.fn F.schema_all [(.string { data := #[114, 101, 99, 115] }), (.int .i64 8), (.slice none 0 0)]) fun x27 =>
                          rc PR (S.load 60 x3) x22 <|
                          also
                            (op PR Pn (S.bslice 22 6 [(0, x22), (1, x23), (2, x24), (3, x25), (4, x26), (5, x27)]) fun x28 =>
                              also
                                (op PR Pn (S.fn F.schema_topics [x28]) fun x29 =>
                                  op PR Pn (S.alloc 60) fun x5_1 =>
                                  op PR Pn (S.store 60 x5_1 x29) fun _ =>
                                  xk_1 x5_1)
                                (op PR Pn (S.alloc 60) fun x5_2 =>
                                  op PR Pn (S.fn F.schema_topics [x28]) fun x29_1 =>
                                  op PR Pn (S.store 60 x5_2 x29_1) fun _ =>
                                  xk_1 x5_2))
                            (op PR Pn (S.alloc 60) fun x5_3 =>
                              rc PR (S.load 60 x3) x22 <|
                              op PR Pn (S.bslice 22 6 [(0, x22), (1, x23), (2, x24), (3, x25), (4, x26), (5, x27)]) fun x28_1 =>
                              op PR Pn (S.fn F.schema_topics [x28_1]) fun x29_2 =>
                              op PR Pn (S.store 60 x5_3 x29_2) fun _ =>
                              xk_1 x5_3))
                        (op PR Pn (S.alloc 60) fun x5_4 =>
                          rc PR (S.load 60 x3) x22 <|
                          op PR Pn (S.fn F.schema_all [(.string { data := #[114, 101, 99, 115] }), (.int .i64 8), (.slice none 0 0)]) fun x27_1 =>
                          rc PR (S.load 60 x3) x22 <|
                          op PR Pn (S.bslice 22 6 [(0, x22), (1, x23), (2, x24), (3, x25), (4, x26), (5, x27_1)]) fun x28_2 =>
                          op PR Pn (S.fn F.schema_topics [x28_2]) fun x29_3 =>
                          op PR Pn (S.store 60 x5_4 x29_3) fun _ =>
                          xk_1 x5_4))
                    (op PR Pn (S.alloc 60) fun x5_5 =>
                      rc PR (S.load 60 x3) x22 <|
                      op PR Pn (S.fn F.schema_since [(.int .i64 3), (.string { data := #[115, 116, 97, 114, 116] }), (.int .i64 4), (.slice none 0 0)]) fun x26_1 =>
                      rc PR (S.load 60 x3) x22 <|
                      op PR Pn (S.fn F.schema_all [(.string { data := #[114, 101, 99, 115] }), (.int .i64 8), (.slice none 0 0)]) fun x27_2 =>
                      rc PR (S.load 60 x3) x22 <|
                      op PR Pn (S.bslice 22 6 [(0, x22), (1, x23), (2, x24), (3, x25), (4, x26_1), (5, x27_2)]) fun x28_3 =>
                      op PR Pn (S.fn F.schema_topics [x28_3]) fun x29_4 =>
                      op PR Pn (S.store 60 x5_5 x29_4) fun _ =>
                      xk_1 x5_5))
                (op PR Pn (S.alloc 60) fun x5_6 =>
                  rc PR (S.load 60 x3) x22 <|
                  op PR Pn (S.fn F.schema_since [(.int .i64 2), (.string { data := #[115, 116, 97, 98, 108, 101] }), (.int .i64 4), (.slice none 0 0)]) fun x25_1 =>
                  rc PR (S.load 60 x3) x22 <|
                  op PR Pn (S.fn F.schema_since [(.int .i64 3), (.string { data := #[115, 116, 97, 114, 116] }), (.int .i64 4), (.slice none 0 0)]) fun x26_2 =>
                  rc PR (S.load 60 x3) x22 <|
                  op PR Pn (S.fn F.schema_all [(.string { data := #[114, 101, 99, 115] }), (.int .i64 8), (.slice none 0 0)]) fun x27_3 =>
                  rc PR (S.load 60 x3) x22 <|
                  op PR Pn (S.bslice 22 6 [(0, x22), (1, x23), (2, x24), (3, x25_1), (4, x26_2), (5, x27_3)]) fun x28_4 =>
                  op PR Pn (S.fn F.schema_topics [x28_4]) fun x29_5 =>
                  op PR Pn (S.store 60 x5_6 x29_5) fun _ =>
                  xk_1 x5_6))
            (op PR Pn (S.alloc 60) fun x5_7 =>
              rc PR (S.load 60 x3) x22 <|
              op PR Pn (S.fn F.schema_all [(.string { data := #[104, 105, 103, 104] }), (.int .i64 4), (.slice none 0 0)]) fun x24_1 =>
              rc PR (S.load 60 x3) x22 <|
              op PR Pn (S.fn F.schema_since [(.int .i64 2), (.string { data := #[115, 116, 97, 98, 108, 101] }), (.int .i64 4), (.slice none 0 0)]) fun x25_2 =>
              rc PR (S.load 60 x3) x22 <|
              op PR Pn (S.fn F.schema_since [(.int .i64 3), (.string { data := #[115, 116, 97, 114, 116] }), (.int .i64 4), (.slice none 0 0)]) fun x26_3 =>
              rc PR (S.load 60 x3) x22 <|
              op PR Pn (S.fn F.schema_all [(.string { data := #[114, 101, 99, 115] }), (.int .i64 8), (.slice none 0 0)]) fun x27_4 =>
              rc PR (S.load 60 x3) x22 <|
              op PR Pn (S.bslice 22 6 [(0, x22), (1, x23), (2, x24_1), (3, x25_2), (4, x26_3), (5, x27_4)]) fun x28_5 =>
              op PR Pn (S.fn F.schema_topics [x28_5]) fun x29_6 =>
              op PR Pn (S.store 60 x5_7 x29_6) fun _ =>
              xk_1 x5_7))
        (op PR Pn (S.alloc 60) fun x5_8 =>
          rc PR (S.load 60 x3) x22 <|
          op PR Pn (S.fn F.schema_all [(.string { data := #[99, 111, 100, 101] }), (.int .i64 2), (.slice none 0 0)]) fun x23_1 =>
          rc PR (S.load 60 x3) x22 <|
          op PR Pn (S.fn F.schema_all [(.string { data := #[104, 105, 103, 104] }), (.int .i64 4), (.slice none 0 0)]) fun x24_2 =>
          rc PR (S.load 60 x3) x22 <|
          op PR Pn (S.fn F.schema_since [(.int .i64 2), (.string { data := #[115, 116, 97, 98, 108, 101] }), (.int .i64 4), (.slice none 0 0)]) fun x25_3 =>
          rc PR (S.load 60 x3) x22 <|
          op PR Pn (S.fn F.schema_since [(.int .i64 3), (.string { data := #[115, 116, 97, 114, 116] }), (.int .i64 4), (.slice none 0 0)]) fun x26_4 =>
          rc PR (S.load 60 x3) x22 <|
          op PR Pn (S.fn F.schema_all [(.string { data := #[114, 101, 99, 115] }), (.int .i64 8), (.slice none 0 0)]) fun x27_5 =>
          rc PR (S.load 60 x3) x22 <|
          op PR Pn (S.bslice 22 6 [(0, x22), (1, x23_1), (2, x24_2), (3, x25_3), (4, x26_4), (5, x27_5)]) fun x28_6 =>
          op PR Pn (S.fn F.schema_topics [x28_6]) fun x29_7 =>
          op PR Pn (S.store 60 x5_8 x29_7) fun _ =>
          xk_1 x5_8)))
theorem enter.schema_fetch {Pn : PK} {K : Value → WP} {a0 : Value} {w : World} (h : W.schema_fetch Pn K a0 w) : op PR Pn (S.fn F.schema_fetch [a0]) K w :=
  op_call (first := []) (cap := []) (args := [a0]) Go.Proofs.Try.func44 (by kernel_rfl) rfl (calls_of_denF (args := [a0]) (h := (.s none .n (.s none .n (.s none (.s none .n (.c (.s (some [4]) (.rg (.ev [0] [] (.fork (.hv 1 (.ev [] [0] (.fork (.hv 2 (.ev [] [0] (.fork (.hv 3 (.ev [] [0] (.fork (.hv 4 (.fork (.hv 5 (.hv 6 (.hv 7 .fin))) (.hv 6 (.hv 5 (.hv 7 .fin))))) (.hv 6 (.ev [] [0] (.hv 4 (.hv 5 (.hv 7 .fin)))))))) (.hv 6 (.ev [] [0] (.hv 3 (.ev [] [0] (.hv 4 (.hv 5 (.hv 7 .fin)))))))))) (.hv 6 (.ev [] [0] (.hv 2 (.ev [] [0] (.hv 3 (.ev [] [0] (.hv 4 (.hv 5 (.hv 7 .fin)))))))))))) (.hv 6 (.ev [] [0] (.hv 1 (.ev [] [0] (.hv 2 (.ev [] [0] (.hv 3 (.ev [] [0] (.hv 4 (.hv 5 (.hv 7 .fin))))))))))))) [[], [], [1], [1, 2], [0, 1, 2, 3], [0, 1, 2, 3, 4], [], [0, 1, 2, 3, 4, 5, 6]]) (.s none (.rg (.ev [5] [] (.hv 0 (.ev [] [5] (.hv 1 (.ev [] [5] (.hv 2 (.ev [] [5] (.hv 3 (.ev [] [5] (.hv 4 (.ev [] [5] (.hv 6 (.ev [7] [] .fin))))))))))))) [[], [0], [0, 1], [0, 1, 2], [0, 1, 2, 3], [], [0, 1, 2, 3, 4, 5], [0, 1, 2, 3, 4, 5, 6]]) .n)) .n)) (.s (some [5]) (.rg (.ev [0] [] (.fork (.hv 1 (.ev [] [0] (.fork (.hv 2 (.ev [] [0] (.fork (.hv 3 (.ev [] [0] (.fork (.hv 4 (.ev [] [0] (.fork (.hv 5 (.ev [] [0] (.fork (.hv 6 (.fork (.hv 7 (.hv 8 (.hv 9 .fin))) (.hv 8 (.hv 7 (.hv 9 .fin))))) (.hv 8 (.ev [] [0] (.hv 6 (.hv 7 (.hv 9 .fin)))))))) (.hv 8 (.ev [] [0] (.hv 5 (.ev [] [0] (.hv 6 (.hv 7 (.hv 9 .fin)))))))))) (.hv 8 (.ev [] [0] (.hv 4 (.ev [] [0] (.hv 5 (.ev [] [0] (.hv 6 (.hv 7 (.hv 9 .fin)))))))))))) (.hv 8 (.ev [] [0] (.hv 3 (.ev [] [0] (.hv 4 (.ev [] [0] (.hv 5 (.ev [] [0] (.hv 6 (.hv 7 (.hv 9 .fin)))))))))))))) (.hv 8 (.ev [] [0] (.hv 2 (.ev [] [0] (.hv 3 (.ev [] [0] (.hv 4 (.ev [] [0] (.hv 5 (.ev [] [0] (.hv 6 (.hv 7 (.hv 9 .fin)))))))))))))))) (.hv 8 (.ev [] [0] (.hv 1 (.ev [] [0] (.hv 2 (.ev [] [0] (.hv 3 (.ev [] [0] (.hv 4 (.ev [] [0] (.hv 5 (.ev [] [0] (.hv 6 (.hv 7 (.hv 9 .fin))))))))))))))))) [[], [], [1], [1, 2], [1, 2, 3], [1, 2, 3, 4], [0, 1, 2, 3, 4, 5], [0, 1, 2, 3, 4, 5, 6], [], [0, 1, 2, 3, 4, 5, 6, 7, 8]]) (.s none (.rg (.ev [1] [] (.hv 0 (.ev [] [1] (.hv 2 (.ev [3] [] .fin))))) [[], [], [0, 1], [0, 1, 2]]) .n)))))) mixed Go.Proofs.Try.func44 rfl (by kernel_rfl) (Eq.mp (by kernel_rfl) h))
/-- leat/schema.list: function 45. -/
def W.schema_list (Pn : PK) (K : Value → WP) (a0 : Value) : WP :=
  op PR Pn (S.fn F.schema_all [(.string { data := #[105, 110, 100, 101, 120] }), (.int .i64 3), (.slice none 0 0)]) fun x8 =>
  op PR Pn (S.alloc 60) fun x3 =>
  op PR Pn (S.store 60 x3 x8) fun _ =>
  op PR Pn (S.un .not a0) fun x10 =>
  ite' x10
  (J1 (fun x5 =>
      drawn <|
      lt PR (S.load 60 x5) fun x20 =>
      op PR Pn (S.fn F.schema_all [(.string { data := #[114, 101, 112, 108, 105, 99, 97] }), (.int .i64 3), (.slice none 0 0)]) fun x18 =>
      rc PR (S.load 60 x5) x20 <|
      op PR Pn (S.fn F.schema_since [(.int .i64 2), (.string { data := #[108, 101, 118, 101, 108] }), (.int .i64 1), (.slice none 0 0)]) fun x19 =>
      rc PR (S.load 60 x5) x20 <|
      op PR Pn (S.bslice 22 3 [(0, x18), (1, x19), (2, x20)]) fun x21 =>
      lt PR (S.mv x21) fun x2 =>
      K x2)
    (fun xk =>
      drawn <|
      lt PR (S.load 60 x3) fun x11 =>
      lt PR (S.mv (.func (.func F.schema_list_1) #[] #[])) fun x14 =>
      also
        (op PR Pn (S.fn F.schema_since [(.int .i64 3), (.string { data := #[101, 112, 111, 99, 104] }), (.int .i64 3), (.slice none 0 0)]) fun x12 =>
          rc PR (S.load 60 x3) x11 <|
          rc PR (S.mv (.func (.func F.schema_list_1) #[] #[])) x14 <|
          also
            (op PR Pn (S.fn F.schema_all [(.string { data := #[116, 105, 109, 101] }), (.int .i64 4), (.slice none 0 0)]) fun x13 =>
              rc PR (S.load 60 x3) x11 <|
              rc PR (S.mv (.func (.func F.schema_list_1) #[] #[])) x14 <|
              also
                (op PR Pn (S.callV x14 [(.string { data := #[109, 111, 115, 116] }), (.int .i64 3), (.slice none 0 0)]) fun x15 =>
                  rc PR (S.load 60 x3) x11 <|
                  also
                    (op PR Pn (S.bslice 22 4 [(0, x11), (1, x12), (2, x13), (3, x15)]) fun x16 =>
                      also
                        (op PR Pn (S.fn F.schema_topics [x16]) fun x17 =>
                          op PR Pn (S.alloc 60) fun x5_1 =>
                          op PR Pn (S.store 60 x5_1 x17) fun _ =>
                          xk x5_1)
                        (op PR Pn (S.alloc 60) fun x5_2 =>
                          op PR Pn (S.fn F.schema_topics [x16]) fun x17_1 =>
                          op PR Pn (S.store 60 x5_2 x17_1) fun _ =>
                          xk x5_2))
                    (op PR Pn (S.alloc 60) fun x5_3 =>
                      rc PR (S.load 60 x3) x11 <|
                      op PR Pn (S.bslice 22 4 [(0, x11), (1, x12), (2, x13), (3, x15)]) fun x16_1 =>
                      op PR Pn (S.fn F.schema_topics [x16_1]) fun x17_2 =>
                      op PR Pn (S.store 60 x5_3 x17_2) fun _ =>
                      xk x5_3))
                (op PR Pn (S.alloc 60) fun x5_4 =>
                  rc PR (S.load 60 x3) x11 <|
                  rc PR (S.mv (.func (.func F.schema_list_1) #[] #[])) x14 <|
                  op PR Pn (S.callV x14 [(.string { data := #[109, 111, 115, 116] }), (.int .i64 3), (.slice none 0 0)]) fun x15_1 =>
                  rc PR (S.load 60 x3) x11 <|
                  op PR Pn (S.bslice 22 4 [(0, x11), (1, x12), (2, x13), (3, x15_1)]) fun x16_2 =>
                  op PR Pn (S.fn F.schema_topics [x16_2]) fun x17_3 =>
                  op PR Pn (S.store 60 x5_4 x17_3) fun _ =>
                  xk x5_4))
            (op PR Pn (S.alloc 60) fun x5_5 =>
              rc PR (S.load 60 x3) x11 <|
              rc PR (S.mv (.func (.func F.schema_list_1) #[] #[])) x14 <|
              op PR Pn (S.fn F.schema_all [(.string { data := #[116, 105, 109, 101] }), (.int .i64 4), (.slice none 0 0)]) fun x13_1 =>
              rc PR (S.load 60 x3) x11 <|
              rc PR (S.mv (.func (.func F.schema_list_1) #[] #[])) x14 <|
              op PR Pn (S.callV x14 [(.string { data := #[109, 111, 115, 116] }), (.int .i64 3), (.slice none 0 0)]) fun x15_2 =>
              rc PR (S.load 60 x3) x11 <|
              op PR Pn (S.bslice 22 4 [(0, x11), (1, x12), (2, x13_1), (3, x15_2)]) fun x16_3 =>
              op PR Pn (S.fn F.schema_topics [x16_3]) fun x17_4 =>
              op PR Pn (S.store 60 x5_5 x17_4) fun _ =>
              xk x5_5))
        (op PR Pn (S.alloc 60) fun x5_6 =>
          rc PR (S.load 60 x3) x11 <|
          rc PR (S.mv (.func (.func F.schema_list_1) #[] #[])) x14 <|
          op PR Pn (S.fn F.schema_since [(.int .i64 3), (.string { data := #[101, 112, 111, 99, 104] }), (.int .i64 3), (.slice none 0 0)]) fun x12_1 =>
          rc PR (S.load 60 x3) x11 <|
          rc PR (S.mv (.func (.func F.schema_list_1) #[] #[])) x14 <|
          op PR Pn (S.fn F.schema_all [(.string { data := #[116, 105, 109, 101] }), (.int .i64 4), (.slice none 0 0)]) fun x13_2 =>
          rc PR (S.load 60 x3) x11 <|
          rc PR (S.mv (.func (.func F.schema_list_1) #[] #[])) x14 <|
          op PR Pn (S.callV x14 [(.string { data := #[109, 111, 115, 116] }), (.int .i64 3), (.slice none 0 0)]) fun x15_3 =>
          rc PR (S.load 60 x3) x11 <|
          op PR Pn (S.bslice 22 4 [(0, x11), (1, x12_1), (2, x13_2), (3, x15_3)]) fun x16_4 =>
          op PR Pn (S.fn F.schema_topics [x16_4]) fun x17_5 =>
          op PR Pn (S.store 60 x5_6 x17_5) fun _ =>
          xk x5_6)))
  (op PR Pn (S.callV (.func (.func F.schema_list_1) #[] #[]) [(.string { data := #[111, 102, 102, 115, 101, 116] }), (.int .i64 4), (.slice none 0 0)]) fun x24 =>
    op PR Pn (S.bslice 22 1 [(0, x24)]) fun x25 =>
    op PR Pn (S.callV (.func (.func F.schema_list_1) #[] #[]) [(.string { data := #[111, 102, 102, 115, 101, 116, 115] }), (.int .i64 9), x25]) fun x26 =>
    op PR Pn (S.alloc 60) fun x6 =>
    op PR Pn (S.store 60 x6 x26) fun _ =>
    J1 (fun x7 =>
      drawn <|
      lt PR (S.load 60 x7) fun x36 =>
      op PR Pn (S.fn F.schema_since [(.int .i64 2), (.string { data := #[116, 104, 114, 111, 116, 116, 108, 101] }), (.int .i64 3), (.slice none 0 0)]) fun x35 =>
      rc PR (S.load 60 x7) x36 <|
      op PR Pn (S.bslice 22 2 [(0, x35), (1, x36)]) fun x37 =>
      lt PR (S.mv x37) fun x2_1 =>
      K x2_1)
    (fun xk_1 =>
      drawn <|
      lt PR (S.load 60 x3) fun x27 =>
      lt PR (S.load 60 x6) fun x29 =>
      also
        (op PR Pn (S.fn F.schema_all [(.string { data := #[99, 111, 100, 101] }), (.int .i64 2), (.slice none 0 0)]) fun x28 =>
          rc PR (S.load 60 x3) x27 <|
          rc PR (S.load 60 x6) x29 <|
          also
            (op PR Pn (S.fn F.schema_since [(.int .i64 1), (.string { data := #[116, 105, 109, 101] }), (.int .i64 4), (.slice none 0 0)]) fun x30 =>
              rc PR (S.load 60 x3) x27 <|
              rc PR (S.load 60 x6) x29 <|
              also
                (op PR Pn (S.fn F.schema_since [(.int .i64 1), (.string { data := #[111, 102, 102, 115, 101, 116] }), (.int .i64 4), (.slice none 0 0)]) fun x31 =>
                  rc PR (S.load 60 x3) x27 <|
                  rc PR (S.load 60 x6) x29 <|
                  also
                    (op PR Pn (S.fn F.schema_since [(.int .i64 3), (.string { data := #[101, 112, 111, 99, 104] }), (.int .i64 3), (.slice none 0 0)]) fun x32 =>
                      rc PR (S.load 60 x3) x27 <|
                      rc PR (S.load 60 x6) x29 <|
                      also
                        (op PR Pn (S.bslice 22 6 [(0, x27), (1, x28), (2, x29), (3, x30), (4, x31), (5, x32)]) fun x33 =>
                          also
                            (op PR Pn (S.fn F.schema_topics [x33]) fun x34 =>
                              op PR Pn (S.alloc 60) fun x7_1 =>
                              op PR Pn (S.store 60 x7_1 x34) fun _ =>
                              xk_1 x7_1)
                            (op PR Pn (S.alloc 60) fun x7_2 =>
                              op PR Pn (S.fn F.schema_topics [x33]) fun x34_1 =>
                              op PR Pn (S.store 60 x7_2 x34_1) fun _ =>
                              xk_1 x7_2))
                        (op PR Pn (S.alloc 60) fun x7_3 =>
                          rc PR (S.load 60 x3) x27 <|
                          rc PR (S.load 60 x6) x29 <|
                          op PR Pn (S.bslice 22 6 [(0, x27), (1, x28), (2, x29), (3, x30), (4, x31), (5, x32)]) fun x33_1 =>
                          op PR Pn (S.fn F.schema_topics [x33_1]) fun x34_2 =>
                          op PR Pn (S.store 60 x7_3 x34_2) fun _ =>
                          xk_1 x7_3))
                    (op PR Pn (S.alloc 60) fun x7_4 =>
                      rc PR (S.load 60 x3) x27 <|
                      rc PR (S.load 60 x6) x29 <|
                      op PR Pn (S.fn F.schema_since [(.int .i64 3), (.string { data := #[101, 112, 111, 99, 104] }), (.int .i64 3), (.slice none 0 0)]) fun x32_1 =>
                      rc PR (S.load 60 x3) x27 <|
                      rc PR (S.load 60 x6) x29 <|
                      op PR Pn (S.bslice 22 6 [(0, x27), (1, x28), (2, x29), (3, x30), (4, x31), (5, x32_1)]) fun x33_2 =>
                      op PR Pn (S.fn F.schema_topics [x33_2]) fun x34_3 =>
                      op PR Pn (S.store 60 x7_4 x34_3) fun _ =>
                      xk_1 x7_4))
                (op PR Pn (S.alloc 60) fun x7_5 =>
                  rc PR (S.load 60 x3) x27 <|
                  rc PR (S.load 60 x6) x29 <|
                  op PR Pn (S.fn F.schema_since [(.int .i64 1), (.string { data := #[111, 102, 102, 115, 101, 116] }), (.int .i64 4), (.slice none 0 0)]) fun x31_1 =>
                  rc PR (S.load 60 x3) x27 <|
                  rc PR (S.load 60 x6) x29 <|
                  op PR Pn (S.fn F.schema_since [(.int .i64 3), (.string { data := #[101, 112, 111, 99, 104] }), (.int .i64 3), (.slice none 0 0)]) fun x32_2 =>
                  rc PR (S.load 60 x3) x27 <|
                  rc PR (S.load 60 x6) x29 <|
                  op PR Pn (S.bslice 22 6 [(0, x27), (1, x28), (2, x29), (3, x30), (4, x31_1), (5, x32_2)]) fun x33_3 =>
                  op PR Pn (S.fn F.schema_topics [x33_3]) fun x34_4 =>
                  op PR Pn (S.store 60 x7_5 x34_4) fun _ =>
                  xk_1 x7_5))
            (op PR Pn (S.alloc 60) fun x7_6 =>
              rc PR (S.load 60 x3) x27 <|
              rc PR (S.load 60 x6) x29 <|
              op PR Pn (S.fn F.schema_since [(.int .i64 1), (.string { data := #[116, 105, 109, 101] }), (.int .i64 4), (.slice none 0 0)]) fun x30_1 =>
              rc PR (S.load 60 x3) x27 <|
              rc PR (S.load 60 x6) x29 <|
              op PR Pn (S.fn F.schema_since [(.int .i64 1), (.string { data := #[111, 102, 102, 115, 101, 116] }), (.int .i64 4), (.slice none 0 0)]) fun x31_2 =>
              rc PR (S.load 60 x3) x27 <|
              rc PR (S.load 60 x6) x29 <|
              op PR Pn (S.fn F.schema_since [(.int .i64 3), (.string { data := #[101, 112, 111, 99, 104] }), (.int .i64 3), (.slice none 0 0)]) fun x32_3 =>
              rc PR (S.load 60 x3) x27 <|
              rc PR (S.load 60 x6) x29 <|
              op PR Pn (S.bslice 22 6 [(0, x27), (1, x28), (2, x29), (3, x30_1), (4, x31_2), (5, x32_3)]) fun x33_4 =>
              op PR Pn (S.fn F.schema_topics [x33_4]) fun x34_5 =>
              op PR Pn (S.store 60 x7_6 x34_5) fun _ =>
              xk_1 x7_6))
        (op PR Pn (S.alloc 60) fun x7_7 =>
          rc PR (S.load 60 x3) x27 <|
          rc PR (S.load 60 x6) x29 <|
          op PR Pn (S.fn F.schema_all [(.string { data := #[99, 111, 100, 101] }), (.int .i64 2), (.slice none 0 0)]) fun x28_1 =>
          rc PR (S.load 60 x3) x27 <|
          rc PR (S.load 60 x6) x29 <|
          op PR Pn (S.fn F.schema_since [(.int .i64 1), (.string { data := #[116, 105, 109, 101] }), (.int .i64 4), (.slice none 0 0)]) fun x30_2 =>
          rc PR (S.load 60 x3) x27 <|
          rc PR (S.load 60 x6) x29 <|
          op PR Pn (S.fn F.schema_since [(.int .i64 1), (.string { data := #[111, 102, 102, 115, 101, 116] }), (.int .i64 4), (.slice none 0 0)]) fun x31_3 =>
          rc PR (S.load 60 x3) x27 <|
          rc PR (S.load 60 x6) x29 <|
          op PR Pn (S.fn F.schema_since [(.int .i64 3), (.string { data := #[101, 112, 111, 99, 104] }), (.int .i64 3), (.slice none 0 0)]) fun x32_4 =>
          rc PR (S.load 60 x3) x27 <|
          rc PR (S.load 60 x6) x29 <|
          op PR Pn (S.bslice 22 6 [(0, x27), (1, x28_1), (2, x29), (3, x30_2), (4, x31_3), (5, x32_4)]) fun x33_5 =>
          op PR Pn (S.fn F.schema_topics [x33_5]) fun x34_6 =>
          op PR Pn (S.store 60 x7_7 x34_6) fun _ =>
          xk_1 x7_7)))
theorem enter.schema_list {Pn : PK} {K : Value → WP} {a0 : Value} {w : World} (h : W.schema_list Pn K a0 w) : op PR Pn (S.fn F.schema_list [a0]) K w :=
  op_call (first := []) (cap := []) (args := [a0]) Go.Proofs.Try.func45 (by kernel_rfl) rfl (calls_of_denF (args := [a0]) (h := (.s none .n (.s none .n (.s none .n (.s none (.s none .n (.c (.s (some [5]) (.rg (.ev [0, 3] [] (.fork (.hv 1 (.ev [] [0, 3] (.fork (.hv 2 (.ev [] [0, 3] (.fork (.hv 4 (.ev [] [0] (.fork (.hv 5 (.fork (.hv 6 (.hv 7 (.hv 8 .fin))) (.hv 7 (.hv 6 (.hv 8 .fin))))) (.hv 7 (.ev [] [0] (.hv 5 (.hv 6 (.hv 8 .fin)))))))) (.hv 7 (.ev [] [0, 3] (.hv 4 (.ev [] [0] (.hv 5 (.hv 6 (.hv 8 .fin)))))))))) (.hv 7 (.ev [] [0, 3] (.hv 2 (.ev [] [0, 3] (.hv 4 (.ev [] [0] (.hv 5 (.hv 6 (.hv 8 .fin)))))))))))) (.hv 7 (.ev [] [0, 3] (.hv 1 (.ev [] [0, 3] (.hv 2 (.ev [] [0, 3] (.hv 4 (.ev [] [0] (.hv 5 (.hv 6 (.hv 8 .fin))))))))))))) [[], [], [1], [], [1, 2, 3], [0, 1, 2, 3, 4], [0, 1, 2, 3, 4, 5], [], [0, 1, 2, 3, 4, 5, 6, 7]]) (.s none (.rg (.ev [2] [] (.hv 0 (.ev [] [2] (.hv 1 (.ev [] [2] (.hv 3 (.ev [4] [] .fin))))))) [[], [0], [], [0, 1, 2], [0, 1, 2, 3]]) .n)) .n)) (.s none .n (.s (some [7]) (.rg (.ev [0, 2] [] (.fork (.hv 1 (.ev [] [0, 2] (.fork (.hv 3 (.ev [] [0, 2] (.fork (.hv 4 (.ev [] [0, 2] (.fork (.hv 5 (.ev [] [0, 2] (.fork (.hv 6 (.fork (.hv 7 (.hv 8 (.hv 9 .fin))) (.hv 8 (.hv 7 (.hv 9 .fin))))) (.hv 8 (.ev [] [0, 2] (.hv 6 (.hv 7 (.hv 9 .fin)))))))) (.hv 8 (.ev [] [0, 2] (.hv 5 (.ev [] [0, 2] (.hv 6 (.hv 7 (.hv 9 .fin)))))))))) (.hv 8 (.ev [] [0, 2] (.hv 4 (.ev [] [0, 2] (.hv 5 (.ev [] [0, 2] (.hv 6 (.hv 7 (.hv 9 .fin)))))))))))) (.hv 8 (.ev [] [0, 2] (.hv 3 (.ev [] [0, 2] (.hv 4 (.ev [] [0, 2] (.hv 5 (.ev [] [0, 2] (.hv 6 (.hv 7 (.hv 9 .fin)))))))))))))) (.hv 8 (.ev [] [0, 2] (.hv 1 (.ev [] [0, 2] (.hv 3 (.ev [] [0, 2] (.hv 4 (.ev [] [0, 2] (.hv 5 (.ev [] [0, 2] (.hv 6 (.hv 7 (.hv 9 .fin))))))))))))))) [[], [], [], [1], [1, 3], [1, 3, 4], [0, 1, 2, 3, 4, 5], [0, 1, 2, 3, 4, 5, 6], [], [0, 1, 2, 3, 4, 5, 6, 7, 8]]) (.s none (.rg (.ev [1] [] (.hv 0 (.ev [] [1] (.hv 2 (.ev [3] [] .fin))))) [[], [], [0, 1], [0, 1, 2]]) .n)))))))) mixed Go.Proofs.Try.func45 rfl (by kernel_rfl) (Eq.mp (by kernel_rfl) h))
/-- leat/leatref10.one: function 46. -/
def W.leatref10_one (Pn : PK) (K : Value → WP) (a0 a1 a2 a3 : Value) : WP :=
  op PR Pn (S.alloc 60) fun x8 =>
  op PR Pn (S.build 60 [(0, a0), (1, a1), (2, a2), (3, a3)]) fun x13 =>
  op PR Pn (S.store 60 x8 x13) fun _ =>
  ldR PR 60 x8 fun xr => K xr
theorem enter.leatref10_one {Pn : PK} {K : Value → WP} {a0 a1 a2 a3 : Value} {w : World} (h : W.leatref10_one Pn K a0 a1 a2 a3 w) : op PR Pn (S.fn F.leatref10_one [a0, a1, a2, a3]) K w :=
  op_call (first := []) (cap := []) (args := [a0, a1, a2, a3]) Go.Proofs.Try.func46 (by kernel_rfl) rfl (calls_of_denF (args := [a0, a1, a2, a3]) (h := (.s none .n (.s none .n .n))) mixed Go.Proofs.Try.func46 rfl (by kernel_rfl) (Eq.mp (by kernel_rfl) h))
/-- leat/leatref10.topics: function 47. -/
def W.leatref10_topics (Pn : PK) (K : Value → WP) (a0 : Value) : WP :=
  op PR Pn (S.alloc 60) fun x2 =>
  op PR Pn (S.build 60 [(0, (.string { data := #[112, 97, 114, 116] })), (1, (.int .i64 10)), (2, (.int .i64 0)), (3, (.int .i64 3)), (4, a0)]) fun x7 =>
  op PR Pn (S.alloc 60) fun x3 =>
  op PR Pn (S.store 60 x3 x7) fun _ =>
  op PR Pn (S.load 60 x3) fun x8 =>
  op PR Pn (S.bslice 22 1 [(0, x8)]) fun x9 =>
  op PR Pn (S.build 60 [(0, (.string { data := #[112, 97, 114, 116, 115] })), (1, (.int .i64 9)), (2, (.int .i64 0)), (3, (.int .i64 3)), (4, x9)]) fun x10 =>
  op PR Pn (S.alloc 60) fun x4 =>
  op PR Pn (S.store 60 x4 x10) fun _ =>
  J1 (fun x5 =>
    op PR Pn (S.load 60 x5) fun x15 =>
    op PR Pn (S.bslice 22 1 [(0, x15)]) fun x16 =>
    op PR Pn (S.build 60 [(0, (.string { data := #[116, 111, 112, 105, 99, 115] })), (1, (.int .i64 9)), (2, (.int .i64 0)), (3, (.int .i64 3)), (4, x16)]) fun x17 =>
    op PR Pn (S.store 60 x2 x17) fun _ =>
    ldR PR 60 x2 fun xr => K xr)
  (fun xk =>
    drawn <|
    lt PR (S.load 60 x4) fun x12 =>
    also
      (op PR Pn (S.fn F.leatref10_one [(.string { data := #[110, 97, 109, 101] }), (.int .i64 5), (.int .i64 0), (.int .i64 3)]) fun x11 =>
        rc PR (S.load 60 x4) x12 <|
        also
          (op PR Pn (S.bslice 22 2 [(0, x11), (1, x12)]) fun x13 =>
            lt PR (S.build 60 [(0, (.string { data := #[116, 111, 112, 105, 99] })), (1, (.int .i64 10)), (2, (.int .i64 0)), (3, (.int .i64 3)), (4, x13)]) fun x14 =>
            op PR Pn (S.alloc 60) fun x5_1 =>
            rc PR (S.build 60 [(0, (.string { data := #[116, 111, 112, 105, 99] })), (1, (.int .i64 10)), (2, (.int .i64 0)), (3, (.int .i64 3)), (4, x13)]) x14 <|
            op PR Pn (S.store 60 x5_1 x14) fun _ =>
            xk x5_1)
          (op PR Pn (S.alloc 60) fun x5_2 =>
            rc PR (S.load 60 x4) x12 <|
            op PR Pn (S.bslice 22 2 [(0, x11), (1, x12)]) fun x13_1 =>
            lt PR (S.build 60 [(0, (.string { data := #[116, 111, 112, 105, 99] })), (1, (.int .i64 10)), (2, (.int .i64 0)), (3, (.int .i64 3)), (4, x13_1)]) fun x14_1 =>
            op PR Pn (S.store 60 x5_2 x14_1) fun _ =>
            xk x5_2))
      (op PR Pn (S.alloc 60) fun x5_3 =>
        rc PR (S.load 60 x4) x12 <|
        op PR Pn (S.fn F.leatref10_one [(.string { data := #[110, 97, 109, 101] }), (.int .i64 5), (.int .i64 0), (.int .i64 3)]) fun x11_1 =>
        rc PR (S.load 60 x4) x12 <|
        op PR Pn (S.bslice 22 2 [(0, x11_1), (1, x12)]) fun x13_2 =>
        lt PR (S.build 60 [(0, (.string { data := #[116, 111, 112, 105, 99] })), (1, (.int .i64 10)), (2, (.int .i64 0)), (3, (.int .i64 3)), (4, x13_2)]) fun x14_2 =>
        op PR Pn (S.store 60 x5_3 x14_2) fun _ =>
        xk x5_3))
theorem enter.leatref10_topics {Pn : PK} {K : Value → WP} {a0 : Value} {w : World} (h : W.leatref10_topics Pn K a0 w) : op PR Pn (S.fn F.leatref10_topics [a0]) K w :=
  op_call (first := []) (cap := []) (args := [a0]) Go.Proofs.Try.func47 (by kernel_rfl) rfl (calls_of_denF (args := [a0]) (h := (.s none .n (.s none .n (.s none .n (.s (some [5]) (.rg (.ev [1] [] (.fork (.hv 0 (.ev [] [1] (.fork (.hv 2 (.ev [3] [] (.hv 4 (.ev [] [3] (.hv 5 .fin))))) (.hv 4 (.ev [] [1] (.hv 2 (.ev [3] [] (.hv 5 .fin)))))))) (.hv 4 (.ev [] [1] (.hv 0 (.ev [] [1] (.hv 2 (.ev [3] [] (.hv 5 .fin))))))))) [[], [], [0, 1], [0, 1, 2], [], [0, 1, 2, 3, 4]]) (.s none .n .n)))))) mixed Go.Proofs.Try.func47 rfl (by kernel_rfl) (Eq.mp (by kernel_rfl) h))
/-- leat/schema.fields: function 48. -/
def W.schema_fields (Pn : PK) (K : Value → WP) (a0 a1 : Value) : WP :=
  op PR Pn (S.bi .len #[22] 3 [false] [a0]) fun x9 =>
  op PR Pn (S.bin .lss 3 (.tmp 9) (.const (.int .i64 1)) x9 (.int .i64 1)) fun x10 =>
  gop PR Pn x10 false (S.mv a0) fun x12 =>
  gop PR Pn x10 false (S.bi .len #[22] 3 [false] [x12]) fun x13 =>
  gop PR Pn x10 false (S.bin .gtr 3 (.tmp 13) (.const (.int .i64 16)) x13 (.int .i64 16)) fun x14 =>
  op PR Pn (S.pick x10 (.bool true) x14) fun x15 =>
  gop PR Pn x15 false (S.mv a1) fun x17 =>
  gop PR Pn x15 false (S.bin .gtr 3 (.tmp 17) (.const (.int .i64 8)) x17 (.int .i64 8)) fun x18 =>
  op PR Pn (S.pick x15 (.bool true) x18) fun x19 =>
  ite' x19
  (K (.bool false))
  (op PR Pn (S.mkMap 101 none) fun x20 =>
    op PR Pn (S.bi .len #[22] 3 [false] [a0]) fun x22 =>
    L2 (.bool false) (.int .i64 0) (fun x4 x23 xk =>
      op PR Pn (S.bin .lss 3 (.tmp 23) (.tmp 22) x23 x22) fun x24 =>
      ite' x24
      (op PR Pn (S.ia 22 a0 x23) fun x25 =>
        op PR Pn (S.load 60 x25) fun x26 =>
        op PR Pn (S.alloc 60) fun x7 =>
        op PR Pn (S.store 60 x7 x26) fun _ =>
        op PR Pn (S.fa 60 x7 0) fun x28 =>
        op PR Pn (S.load 9 x28) fun x29 =>
        op PR Pn (S.lk 101 x20 x29 false) fun x30 =>
        op PR Pn (S.bin .add 3 (.tmp 30) (.const (.int .i64 1)) x30 (.int .i64 1)) fun x31 =>
        op PR Pn (S.mu 101 x20 x29 x31) fun _ =>
        op PR Pn (S.fa 60 x7 0) fun x32 =>
        op PR Pn (S.load 9 x32) fun x33 =>
        op PR Pn (S.bin .eql 9 (.tmp 33) (.const (.string { data := #[] })) x33 (.string { data := #[] })) fun x34 =>
        gop PR Pn x34 false (S.mv x20) fun x36 =>
        gop PR Pn x34 false (S.fa 60 x7 0) fun x37 =>
        gop PR Pn x34 false (S.load 9 x37) fun x38 =>
        gop PR Pn x34 false (S.lk 101 x36 x38 false) fun x39 =>
        gop PR Pn x34 false (S.bin .gtr 3 (.tmp 39) (.const (.int .i64 1)) x39 (.int .i64 1)) fun x40 =>
        op PR Pn (S.pick x34 (.bool true) x40) fun x41 =>
        gop PR Pn x41 false (S.load 60 x7) fun x43 =>
        gop PR Pn x41 false (S.mv a1) fun x44 =>
        gop PR Pn x41 false (S.fn F.schema_field [x43, x44]) fun x45 =>
        gop PR Pn x41 false (S.un .not x45) fun x46 =>
        op PR Pn (S.pick x41 (.bool true) x46) fun x47 =>
        ite' x47
        (K (.bool false))
        (op PR Pn (S.bin .add 3 (.tmp 23) (.const (.int .i64 1)) x23 (.int .i64 1)) fun x48 =>
          xk x4 x48))
      (K (.bool true))))
theorem enter.schema_fields {Pn : PK} {K : Value → WP} {a0 a1 : Value} {w : World} (h : W.schema_fields Pn K a0 a1 w) : op PR Pn (S.fn F.schema_fields [a0, a1]) K w :=
  op_call (first := []) (cap := []) (args := [a0, a1]) Go.Proofs.Try.func48 (by kernel_rfl) rfl (calls_of_denF (args := [a0, a1]) (h := (.s none .n (.s none (.s none .n (.c (.s none .n .n) .n)) (.s none .n (.s none (.s none .n (.bl (.lp [4, 23] (.s none .n (.s none (.c .n .n) (.s none (.bl (.s none .n (.s none .n (.s none .n (.c (.s none .n .n) .n))))) .n)))))) (.s none .n .n)))))) mixed Go.Proofs.Try.func48 rfl (by kernel_rfl) (Eq.mp (by kernel_rfl) h))
/-- leat/leatref10.Check: function 49. -/
def W.leatref10_Check (Pn : PK) (K : Value → WP) (a0 : Value) : WP :=
  op PR Pn (S.fn F.leatref10_list [a0, (.int .i64 1)]) fun x4 =>
  op PR Pn (S.un .not x4) fun x5 =>
  ite' x5
  (K (.int .i64 100))
  (K (.int .i64 0))
theorem enter.leatref10_Check {Pn : PK} {K : Value → WP} {a0 : Value} {w : World} (h : W.leatref10_Check Pn K a0 w) : op PR Pn (S.fn F.leatref10_Check [a0]) K w :=
  op_call (first := []) (cap := []) (args := [a0]) Go.Proofs.Try.func49 (by kernel_rfl) rfl (calls_of_denF (args := [a0]) (h := (.s none .n (.s none (.s none .n (.c (.s none .n .n) .n)) (.s none .n .n)))) mixed Go.Proofs.Try.func49 rfl (by kernel_rfl) (Eq.mp (by kernel_rfl) h))
/-- leat/leatref10.Here: function 50. -/
def W.leatref10_Here (Pn : PK) (K : Value → WP) (a0 a1 : Value) : WP :=
  op PR Pn (S.bslice 22 0 []) fun x7 =>
  L2 x7 (.int .i64 0) (fun x5 x6 xk =>
    op PR Pn (S.bi .len #[22] 3 [false] [a0]) fun x10 =>
    op PR Pn (S.bin .lss 3 (.tmp 8) (.tmp 10) x6 x10) fun x11 =>
    ite' x11
    (J1 (fun x5_1 =>
        op PR Pn (S.bin .add 3 (.tmp 12) (.const (.int .i64 1)) x6 (.int .i64 1)) fun x13 =>
        xk x5_1 x13)
      (fun xk_1 =>
        op PR Pn (S.ia 22 a0 x6) fun x16 =>
        op PR Pn (S.load 60 x16) fun x17 =>
        op PR Pn (S.fn F.leatref10_here [x17, a1]) fun x19 =>
        ite' x19
        (op PR Pn (S.ia 22 a0 x6) fun x23 =>
          op PR Pn (S.load 60 x23) fun x24 =>
          op PR Pn (S.bslice 22 1 [(0, x24)]) fun x25 =>
          op PR Pn (S.bi .append #[22, 22] 22 [false, false] [x5, x25]) fun x26 =>
          xk_1 x26)
        (xk_1 x5)))
    (K x5))
theorem enter.leatref10_Here {Pn : PK} {K : Value → WP} {a0 a1 : Value} {w : World} (h : W.leatref10_Here Pn K a0 a1 w) : op PR Pn (S.fn F.leatref10_Here [a0, a1]) K w :=
  op_call (first := []) (cap := []) (args := [a0, a1]) Go.Proofs.Try.func50 (by kernel_rfl) rfl (calls_of_denF (args := [a0, a1]) (h := (.s none .n (.s none .n (.s none (.s none .n (.bl (.lp [5, 6] (.s none (.s none .n (.c .n .n)) (.s (some [5]) (.bl (.s none .n (.c .n .n))) .n))))) (.s none .n .n))))) mixed Go.Proofs.Try.func50 rfl (by kernel_rfl) (Eq.mp (by kernel_rfl) h))
/-- leat/leatref10.read: function 51. -/
def W.leatref10_read (Pn : PK) (K : Value → WP) (a0 a1 a2 a3 : Value) : WP :=
  op PR Pn (S.box 60 a0) fun x4 =>
  op PR Pn (S.alloc 29) fun x8 =>
  op PR Pn (S.build 29 []) fun x18 =>
  op PR Pn (S.alloc 29) fun x11 =>
  op PR Pn (S.store 29 x11 x18) fun _ =>
  op PR Pn (S.fa 60 x4 1) fun x19 =>
  op PR Pn (S.load 3 x19) fun x20 =>
  op PR Pn (S.bin .eql 3 (.tmp 20) (.const (.int .i64 10)) x20 (.int .i64 10)) fun x21 =>
  ite' x21
  (op PR Pn (S.fa 60 x4 4) fun x22 =>
    op PR Pn (S.load 22 x22) fun x23 =>
    op PR Pn (S.fn F.leatref10_readParts [x23, a1, a2, a3]) fun x27 =>
    op PR Pn (S.ext x27 0) fun x28 =>
    op PR Pn (S.ext x27 1) fun x29 =>
    op PR Pn (S.ext x27 2) fun x30 =>
    op PR Pn (S.store 29 x8 x28) fun _ =>
    ldR PR 29 x8 fun xr => K (.tuple #[xr, x29, x30]))
  (op PR Pn (S.fa 60 x4 1) fun x31 =>
    op PR Pn (S.load 3 x31) fun x32 =>
    op PR Pn (S.fn F.leatref10_width [x32]) fun x33 =>
    op PR Pn (S.fn F.leatref01_Number [a2, a3, x33]) fun x38 =>
    op PR Pn (S.ext x38 0) fun x39 =>
    op PR Pn (S.ext x38 1) fun x40 =>
    op PR Pn (S.un .not x40) fun x42 =>
    ite' x42
    (op PR Pn (S.load 29 x11) fun x43 =>
      op PR Pn (S.store 29 x8 x43) fun _ =>
      ldR PR 29 x8 fun xr_1 => K (.tuple #[xr_1, (.int .i64 0), (.int .i64 1)]))
    (op PR Pn (S.bin .add 3 (.tmp 44) (.tmp 45) a3 x33) fun x46 =>
      op PR Pn (S.fa 60 x4 1) fun x47 =>
      op PR Pn (S.load 3 x47) fun x48 =>
      op PR Pn (S.bin .leq 3 (.tmp 48) (.const (.int .i64 4)) x48 (.int .i64 4)) fun x49 =>
      ite' x49
      (op PR Pn (S.fa 60 x4 1) fun x50 =>
        op PR Pn (S.load 3 x50) fun x51 =>
        op PR Pn (S.build 29 [(0, x51), (1, x39)]) fun x53 =>
        op PR Pn (S.store 29 x8 x53) fun _ =>
        ldR PR 29 x8 fun xr_2 => K (.tuple #[xr_2, x46, (.int .i64 0)]))
      (op PR Pn (S.bin .eql 2 (.tmp 55) (.const (.int .i64 (-1))) x39 (.int .i64 (-1))) fun x56 =>
        gop PR Pn x56 true (S.fa 60 x4 1) fun x58 =>
        gop PR Pn x56 true (S.load 3 x58) fun x59 =>
        gop PR Pn x56 true (S.bin .eql 3 (.tmp 59) (.const (.int .i64 6)) x59 (.int .i64 6)) fun x60 =>
        gop PR Pn x56 true (S.mv x60) fun x61 =>
        gop PR Pn x61 false (S.fa 60 x4 1) fun x62 =>
        gop PR Pn x61 false (S.load 3 x62) fun x63 =>
        gop PR Pn x61 false (S.bin .eql 3 (.tmp 63) (.const (.int .i64 8)) x63 (.int .i64 8)) fun x64 =>
        gop PR Pn x56 true (S.pick x61 (.bool true) x64) fun x65 =>
        op PR Pn (S.pick x56 x65 (.bool false)) fun x66 =>
        ite' x66
        (op PR Pn (S.fa 60 x4 1) fun x67 =>
          op PR Pn (S.load 3 x67) fun x68 =>
          op PR Pn (S.build 29 [(0, x68), (2, (.bool true))]) fun x69 =>
          op PR Pn (S.store 29 x8 x69) fun _ =>
          ldR PR 29 x8 fun xr_3 => K (.tuple #[xr_3, x46, (.int .i64 0)]))
        (op PR Pn (S.bin .lss 2 (.tmp 71) (.const (.int .i64 0)) x39 (.int .i64 0)) fun x72 =>
          ite' x72
          (op PR Pn (S.load 29 x11) fun x73 =>
            op PR Pn (S.store 29 x8 x73) fun _ =>
            ldR PR 29 x8 fun xr_4 => K (.tuple #[xr_4, (.int .i64 0), (.int .i64 5)]))
          (op PR Pn (S.fa 60 x4 1) fun x74 =>
            op PR Pn (S.load 3 x74) fun x75 =>
            op PR Pn (S.bin .eql 3 (.tmp 75) (.const (.int .i64 9)) x75 (.int .i64 9)) fun x76 =>
            ite' x76
            (op PR Pn (S.load 60 x4) fun x77 =>
              op PR Pn (S.fn F.leatref10_readItems [x77, a1, a2, x46, x39]) fun x82 =>
              op PR Pn (S.ext x82 0) fun x83 =>
              op PR Pn (S.ext x82 1) fun x84 =>
              op PR Pn (S.ext x82 2) fun x85 =>
              op PR Pn (S.store 29 x8 x83) fun _ =>
              ldR PR 29 x8 fun xr_5 => K (.tuple #[xr_5, x84, x85]))
            (op PR Pn (S.fa 60 x4 1) fun x86 =>
              op PR Pn (S.load 3 x86) fun x87 =>
              op PR Pn (S.bin .leq 3 (.tmp 87) (.const (.int .i64 6)) x87 (.int .i64 6)) fun x88 =>
              gop PR Pn x88 true (S.mv x39) fun x90 =>
              gop PR Pn x88 true (S.bin .gtr 2 (.tmp 90) (.const (.int .i64 255)) x90 (.int .i64 255)) fun x91 =>
              op PR Pn (S.pick x88 x91 (.bool false)) fun x92 =>
              ite' x92
              (op PR Pn (S.load 29 x11) fun x93 =>
                op PR Pn (S.store 29 x8 x93) fun _ =>
                ldR PR 29 x8 fun xr_6 => K (.tuple #[xr_6, (.int .i64 0), (.int .i64 4)]))
              (op PR Pn (S.bi .len #[23] 3 [false] [a2]) fun x96 =>
                op PR Pn (S.bin .sub 3 (.tmp 96) (.tmp 97) x96 x46) fun x98 =>
                op PR Pn (S.bin .gtr 2 (.tmp 94) (.tmp 98) x39 x98) fun x99 =>
                ite' x99
                (op PR Pn (S.load 29 x11) fun x100 =>
                  op PR Pn (S.store 29 x8 x100) fun _ =>
                  ldR PR 29 x8 fun xr_7 => K (.tuple #[xr_7, (.int .i64 0), (.int .i64 1)]))
                (op PR Pn (S.bin .add 3 (.tmp 103) (.tmp 104) x46 x39) fun x105 =>
                  op PR Pn (S.fn F.leatref01_Piece [a2, x46, x105]) fun x106 =>
                  J0 (
                    op PR Pn (S.fa 60 x4 1) fun x118 =>
                    op PR Pn (S.load 3 x118) fun x119 =>
                    op PR Pn (S.build 29 [(0, x119), (3, x106)]) fun x121 =>
                    op PR Pn (S.bin .add 3 (.tmp 122) (.tmp 123) x46 x39) fun x124 =>
                    op PR Pn (S.store 29 x8 x121) fun _ =>
                    ldR PR 29 x8 fun xr_8 => K (.tuple #[xr_8, x124, (.int .i64 0)]))
                  (fun xk =>
                    op PR Pn (S.fa 60 x4 1) fun x107 =>
                    op PR Pn (S.load 3 x107) fun x108 =>
                    op PR Pn (S.bin .leq 3 (.tmp 108) (.const (.int .i64 6)) x108 (.int .i64 6)) fun x109 =>
                    ite' x109
                    (op PR Pn (S.fn F.leatref04_Utf [x106]) fun x112 =>
                      op PR Pn (S.ext x112 0) fun x113 =>
                      op PR Pn (S.ext x112 1) fun x114 =>
                      op PR Pn (S.un .not x114) fun x116 =>
                      ite' x116
                      (op PR Pn (S.load 29 x11) fun x117 =>
                        op PR Pn (S.store 29 x8 x117) fun _ =>
                        ldR PR 29 x8 fun xr_9 => K (.tuple #[xr_9, (.int .i64 0), (.int .i64 6)]))
                      (xk))
                    (xk))))))))))
theorem enter.leatref10_read {Pn : PK} {K : Value → WP} {a0 a1 a2 a3 : Value} {w : World} (h : W.leatref10_read Pn K a0 a1 a2 a3 w) : op PR Pn (S.fn F.leatref10_read [a0, a1, a2, a3]) K w :=
  op_call (first := []) (cap := []) (args := [a0, a1, a2, a3]) Go.Proofs.Try.func51 (by kernel_rfl) rfl (calls_of_denF (args := [a0, a1, a2, a3]) (h := (.s none .n (.s none .n (.s none (.s none .n (.c (.s none .n .n) .n)) (.s none .n (.s none .n (.s none (.s none .n (.c (.s none .n .n) .n)) (.s none .n (.s none (.s none .n (.c (.s none .n .n) .n)) (.s none (.s none .n (.c (.s none .n .n) .n)) (.s none (.s none .n (.c (.s none .n .n) .n)) (.s none (.s none .n (.c (.s none .n .n) .n)) (.s none (.s none .n (.c (.s none .n .n) .n)) (.s none (.s none .n (.c (.s none .n .n) .n)) (.s none .n (.s (some []) (.s none .n (.c (.s none .n (.s none .n (.c (.s none .n .n) .n))) .n)) (.s none .n .n))))))))))))))))) mixed Go.Proofs.Try.func51 rfl (by kernel_rfl) (Eq.mp (by kernel_rfl) h))
/-- leat/schema.whole: function 52. -/
def W.schema_whole (Pn : PK) (K : Value → WP) (a0 a1 : Value) : WP :=
  op PR Pn (S.alloc 66) fun x4 =>
  op PR Pn (S.alloc 66) fun x5 =>
  op PR Pn (S.fn F.schema_present [a0, a1]) fun x10 =>
  op PR Pn (S.bi .len #[22] 3 [false] [x10]) fun x11 =>
  L1 (.int .i64 0) (fun x12 xk =>
    op PR Pn (S.bin .lss 3 (.tmp 12) (.tmp 11) x12 x11) fun x13 =>
    ite' x13
    (op PR Pn (S.ia 22 x10 x12) fun x14 =>
      op PR Pn (S.load 60 x14) fun x15 =>
      op PR Pn (S.alloc 60) fun x7 =>
      op PR Pn (S.store 60 x7 x15) fun _ =>
      drawn <|
      lt PR (S.fa 66 x5 0) fun x16 =>
      lt PR (S.load 64 x16) fun x17 =>
      lt PR (S.load 60 x7) fun x18 =>
      lt PR (S.mv a1) fun x19 =>
      op PR Pn (S.fn F.schema_compile [x18, x19]) fun x20 =>
      rc PR (S.fa 66 x5 0) x16 <|
      rc PR (S.load 64 x16) x17 <|
      op PR Pn (S.bslice 64 1 [(0, x20)]) fun x21 =>
      rc PR (S.fa 66 x5 0) x16 <|
      rc PR (S.load 64 x16) x17 <|
      op PR Pn (S.bi .append #[64, 64] 64 [false, false] [x17, x21]) fun x22 =>
      lt PR (S.fa 66 x5 0) fun x23 =>
      op PR Pn (S.store 64 x23 x22) fun _ =>
      op PR Pn (S.bin .add 3 (.tmp 12) (.const (.int .i64 1)) x12 (.int .i64 1)) fun x24 =>
      xk x24)
    (op PR Pn (S.load 66 x5) fun x25 =>
      op PR Pn (S.store 66 x4 x25) fun _ =>
      ldR PR 66 x4 fun xr => K xr))
theorem enter.schema_whole {Pn : PK} {K : Value → WP} {a0 a1 : Value} {w : World} (h : W.schema_whole Pn K a0 a1 w) : op PR Pn (S.fn F.schema_whole [a0, a1]) K w :=
  op_call (first := []) (cap := []) (args := [a0, a1]) Go.Proofs.Try.func52 (by kernel_rfl) rfl (calls_of_denF (args := [a0, a1]) (h := (.s none .n (.s none .n (.s none (.s none .n (.bl (.lp [12] (.s none .n (.s none (.c .n .n) (.s none (.bl (.s none .n (.rg (.ev [0, 1, 2, 3] [] (.hv 4 (.ev [] [0, 1] (.hv 5 (.ev [] [0, 1] (.hv 6 (.ev [7] [] (.hv 8 .fin)))))))) [[], [0], [], [], [2, 3], [2, 3, 4], [0, 1, 2, 3, 4, 5], [0, 1, 2, 3, 4, 5, 6], [0, 1, 2, 3, 4, 5, 6, 7]]))) .n)))))) (.s none .n .n))))) mixed Go.Proofs.Try.func52 rfl (by kernel_rfl) (Eq.mp (by kernel_rfl) h))
/-- bytes.Clone: function 53. -/
def W.bytes_Clone (Pn : PK) (K : Value → WP) (a0 : Value) : WP :=
  op PR Pn (S.bin .eql 23 (.tmp 3) (.const (.slice none 0 0)) a0 (.slice none 0 0)) fun x4 =>
  ite' x4
  (K (.slice none 0 0))
  (op PR Pn (S.bslice 23 0 []) fun x5 =>
    op PR Pn (S.bi .append #[23, 23] 23 [false, false] [x5, a0]) fun x7 =>
    K x7)
theorem enter.bytes_Clone {Pn : PK} {K : Value → WP} {a0 : Value} {w : World} (h : W.bytes_Clone Pn K a0 w) : op PR Pn (S.fn F.bytes_Clone [a0]) K w :=
  op_call (first := []) (cap := []) (args := [a0]) Go.Proofs.Try.func53 (by kernel_rfl) rfl (calls_of_denF (args := [a0]) (h := (.s none .n (.s none (.s none .n (.c (.s none .n .n) .n)) (.s none .n .n)))) mixed Go.Proofs.Try.func53 rfl (by kernel_rfl) (Eq.mp (by kernel_rfl) h))
/-- leat/schema.plain: function 54. -/
def W.schema_plain (Pn : PK) (K : Value → WP) (a0 a1 a2 a3 a4 a5 : Value) : WP :=
  op PR Pn (S.box 29 a0) fun x6 =>
  op PR Pn (S.fa 29 x6 0) fun x13 =>
  op PR Pn (S.load 3 x13) fun x14 =>
  op PR Pn (S.bin .eql 3 (.tmp 14) (.tmp 15) x14 a1) fun x16 =>
  gop PR Pn x16 true (S.mv a2) fun x18 =>
  gop PR Pn x16 true (S.mv x18) fun x19 =>
  gop PR Pn x19 false (S.fa 29 x6 1) fun x20 =>
  gop PR Pn x19 false (S.load 2 x20) fun x21 =>
  gop PR Pn x19 false (S.bin .eql 2 (.tmp 21) (.const (.int .i64 0)) x21 (.int .i64 0)) fun x22 =>
  gop PR Pn x16 true (S.pick x19 (.bool true) x22) fun x23 =>
  op PR Pn (S.pick x16 x23 (.bool false)) fun x24 =>
  gop PR Pn x24 true (S.mv a3) fun x26 =>
  gop PR Pn x24 true (S.mv x26) fun x27 =>
  gop PR Pn x27 false (S.fa 29 x6 3) fun x28 =>
  gop PR Pn x27 false (S.load 23 x28) fun x29 =>
  gop PR Pn x27 false (S.bi .len #[23] 3 [false] [x29]) fun x30 =>
  gop PR Pn x27 false (S.bin .eql 3 (.tmp 30) (.const (.int .i64 0)) x30 (.int .i64 0)) fun x31 =>
  gop PR Pn x24 true (S.pick x27 (.bool true) x31) fun x32 =>
  op PR Pn (S.pick x24 x32 (.bool false)) fun x33 =>
  gop PR Pn x33 true (S.mv a4) fun x35 =>
  gop PR Pn x33 true (S.mv x35) fun x36 =>
  gop PR Pn x36 false (S.fa 29 x6 2) fun x37 =>
  gop PR Pn x36 false (S.load 4 x37) fun x38 =>
  gop PR Pn x36 false (S.un .not x38) fun x39 =>
  gop PR Pn x33 true (S.pick x36 (.bool true) x39) fun x40 =>
  op PR Pn (S.pick x33 x40 (.bool false)) fun x41 =>
  gop PR Pn x41 true (S.mv a5) fun x43 =>
  gop PR Pn x41 true (S.mv x43) fun x44 =>
  gop PR Pn x44 false (S.fa 29 x6 4) fun x45 =>
  gop PR Pn x44 false (S.load 27 x45) fun x46 =>
  gop PR Pn x44 false (S.bi .len #[27] 3 [false] [x46]) fun x47 =>
  gop PR Pn x44 false (S.bin .eql 3 (.tmp 47) (.const (.int .i64 0)) x47 (.int .i64 0)) fun x48 =>
  gop PR Pn x41 true (S.pick x44 (.bool true) x48) fun x49 =>
  op PR Pn (S.pick x41 x49 (.bool false)) fun x50 =>
  K x50
theorem enter.schema_plain {Pn : PK} {K : Value → WP} {a0 a1 a2 a3 a4 a5 : Value} {w : World} (h : W.schema_plain Pn K a0 a1 a2 a3 a4 a5 w) : op PR Pn (S.fn F.schema_plain [a0, a1, a2, a3, a4, a5]) K w :=
  op_call (first := []) (cap := []) (args := [a0, a1, a2, a3, a4, a5]) Go.Proofs.Try.func54 (by kernel_rfl) rfl (calls_of_denF (args := [a0, a1, a2, a3, a4, a5]) (h := (.s none .n (.s none .n .n))) mixed Go.Proofs.Try.func54 rfl (by kernel_rfl) (Eq.mp (by kernel_rfl) h))
/-- leat/leatref10.value: function 55. -/
def W.leatref10_value (Pn : PK) (K : Value → WP) (a0 a1 a2 : Value) : WP :=
  op PR Pn (S.box 60 a0) fun x3 =>
  op PR Pn (S.box 29 a2) fun x5 =>
  op PR Pn (S.load 60 x3) fun x15 =>
  op PR Pn (S.load 29 x5) fun x16 =>
  op PR Pn (S.fn F.leatref10_shape [x15, x16]) fun x17 =>
  op PR Pn (S.un .not x17) fun x18 =>
  ite' x18
  (K (.tuple #[(.slice none 0 0), (.int .i64 101)]))
  (op PR Pn (S.fa 60 x3 1) fun x19 =>
    op PR Pn (S.load 3 x19) fun x20 =>
    op PR Pn (S.fn F.leatref10_width [x20]) fun x21 =>
    op PR Pn (S.fa 60 x3 1) fun x22 =>
    op PR Pn (S.load 3 x22) fun x23 =>
    op PR Pn (S.bin .leq 3 (.tmp 23) (.const (.int .i64 4)) x23 (.int .i64 4)) fun x24 =>
    ite' x24
    (op PR Pn (S.fa 29 x5 1) fun x25 =>
      op PR Pn (S.load 2 x25) fun x26 =>
      op PR Pn (S.fn F.leatref01_Fits [x26, x21]) fun x28 =>
      op PR Pn (S.un .not x28) fun x29 =>
      ite' x29
      (K (.tuple #[(.slice none 0 0), (.int .i64 102)]))
      (op PR Pn (S.fa 29 x5 1) fun x30 =>
        op PR Pn (S.load 2 x30) fun x31 =>
        op PR Pn (S.fn F.leatref01_Digits [x31, x21]) fun x33 =>
        K (.tuple #[x33, (.int .i64 0)])))
    (op PR Pn (S.fa 60 x3 1) fun x34 =>
      op PR Pn (S.load 3 x34) fun x35 =>
      op PR Pn (S.bin .eql 3 (.tmp 35) (.const (.int .i64 9)) x35 (.int .i64 9)) fun x36 =>
      ite' x36
      (op PR Pn (S.fa 29 x5 4) fun x37 =>
        op PR Pn (S.load 27 x37) fun x38 =>
        op PR Pn (S.bi .len #[27] 3 [false] [x38]) fun x39 =>
        op PR Pn (S.bin .gtr 3 (.tmp 39) (.const (.int .i64 16)) x39 (.int .i64 16)) fun x40 =>
        ite' x40
        (K (.tuple #[(.slice none 0 0), (.int .i64 9)]))
        (op PR Pn (S.fa 29 x5 4) fun x41 =>
          op PR Pn (S.load 27 x41) fun x42 =>
          op PR Pn (S.bi .len #[27] 3 [false] [x42]) fun x43 =>
          op PR Pn (S.fn F.leatref01_Digits [x43, (.int .i64 4)]) fun x44 =>
          L4 (.slice none 0 0) (.int .i64 0) x44 (.int .i64 0) (fun x6 x7 x9 x10 xk =>
            op PR Pn (S.fa 29 x5 4) fun x46 =>
            op PR Pn (S.load 27 x46) fun x47 =>
            op PR Pn (S.bi .len #[27] 3 [false] [x47]) fun x48 =>
            op PR Pn (S.bin .lss 3 (.tmp 45) (.tmp 48) x10 x48) fun x49 =>
            ite' x49
            (drawn <|
              lt PR (S.fa 60 x3 4) fun x53 =>
              lt PR (S.load 22 x53) fun x54 =>
              lt PR (S.ia 22 x54 (.int .i64 0)) fun x55 =>
              lt PR (S.load 60 x55) fun x56 =>
              lt PR (S.mv a1) fun x57 =>
              lt PR (S.fa 29 x5 4) fun x58 =>
              lt PR (S.load 27 x58) fun x59 =>
              lt PR (S.mv x10) fun x60 =>
              lt PR (S.ia 27 x59 x60) fun x61 =>
              lt PR (S.load 29 x61) fun x62 =>
              op PR Pn (S.fn F.leatref10_value [x56, x57, x62]) fun x63 =>
              lt PR (S.mv x63) fun x52 =>
              lt PR (S.ext x52 0) fun x64 =>
              lt PR (S.ext x52 1) fun x65 =>
              lt PR (S.mv x64) fun x11 =>
              lt PR (S.mv x65) fun x12 =>
              op PR Pn (S.bin .neq 3 (.tmp 66) (.const (.int .i64 0)) x12 (.int .i64 0)) fun x67 =>
              ite' x67
              (K (.tuple #[(.slice none 0 0), x12]))
              (op PR Pn (S.fn F.leatref01_Cat [x9, x11]) fun x71 =>
                op PR Pn (S.bin .add 3 (.tmp 50) (.const (.int .i64 1)) x10 (.int .i64 1)) fun x51 =>
                xk x6 x7 x71 x51))
            (K (.tuple #[x9, (.int .i64 0)])))))
      (op PR Pn (S.fa 60 x3 1) fun x73 =>
        op PR Pn (S.load 3 x73) fun x74 =>
        op PR Pn (S.bin .eql 3 (.tmp 74) (.const (.int .i64 10)) x74 (.int .i64 10)) fun x75 =>
        ite' x75
        (op PR Pn (S.fa 60 x3 4) fun x76 =>
          op PR Pn (S.load 22 x76) fun x77 =>
          op PR Pn (S.load 29 x5) fun x79 =>
          op PR Pn (S.fn F.leatref10_parts [x77, a1, x79]) fun x80 =>
          op PR Pn (S.ext x80 0) fun x81 =>
          op PR Pn (S.ext x80 1) fun x82 =>
          K (.tuple #[x81, x82]))
        (op PR Pn (S.fa 29 x5 2) fun x83 =>
          op PR Pn (S.load 4 x83) fun x84 =>
          gop PR Pn x84 true (S.fa 29 x5 3) fun x86 =>
          gop PR Pn x84 true (S.load 23 x86) fun x87 =>
          gop PR Pn x84 true (S.bi .len #[23] 3 [false] [x87]) fun x88 =>
          gop PR Pn x84 true (S.bin .gtr 3 (.tmp 88) (.const (.int .i64 0)) x88 (.int .i64 0)) fun x89 =>
          op PR Pn (S.pick x84 x89 (.bool false)) fun x90 =>
          ite' x90
          (K (.tuple #[(.slice none 0 0), (.int .i64 70)]))
          (op PR Pn (S.fa 29 x5 2) fun x91 =>
            op PR Pn (S.load 4 x91) fun x92 =>
            ite' x92
            (op PR Pn (S.fn F.leatref01_Digits [(.int .i64 (-1)), x21]) fun x94 =>
              K (.tuple #[x94, (.int .i64 0)]))
            (J0 (
                drawn <|
                lt PR (S.fa 29 x5 3) fun x110 =>
                lt PR (S.load 23 x110) fun x111 =>
                lt PR (S.bi .len #[23] 3 [false] [x111]) fun x112 =>
                lt PR (S.mv x21) fun x113 =>
                lt PR (S.fa 29 x5 3) fun x115 =>
                lt PR (S.load 23 x115) fun x116 =>
                op PR Pn (S.fn F.leatref01_Digits [x112, x113]) fun x114 =>
                rc PR (S.fa 29 x5 3) x115 <|
                rc PR (S.load 23 x115) x116 <|
                op PR Pn (S.fn F.leatref01_Cat [x114, x116]) fun x117 =>
                lt PR (S.mv x117) fun x6_1 =>
                lt PR (S.mv (.int .i64 0)) fun x7_1 =>
                K (.tuple #[x6_1, x7_1]))
              (fun xk_1 =>
                op PR Pn (S.fa 60 x3 1) fun x95 =>
                op PR Pn (S.load 3 x95) fun x96 =>
                op PR Pn (S.bin .leq 3 (.tmp 96) (.const (.int .i64 6)) x96 (.int .i64 6)) fun x97 =>
                ite' x97
                (op PR Pn (S.fa 29 x5 3) fun x99 =>
                  op PR Pn (S.load 23 x99) fun x100 =>
                  op PR Pn (S.fn F.leatref04_Utf [x100]) fun x101 =>
                  op PR Pn (S.ext x101 0) fun x102 =>
                  op PR Pn (S.ext x101 1) fun x103 =>
                  op PR Pn (S.un .not x103) fun x105 =>
                  ite' x105
                  (K (.tuple #[(.slice none 0 0), (.int .i64 6)]))
                  (op PR Pn (S.fa 29 x5 3) fun x106 =>
                    op PR Pn (S.load 23 x106) fun x107 =>
                    op PR Pn (S.bi .len #[23] 3 [false] [x107]) fun x108 =>
                    op PR Pn (S.bin .gtr 3 (.tmp 108) (.const (.int .i64 255)) x108 (.int .i64 255)) fun x109 =>
                    ite' x109
                    (K (.tuple #[(.slice none 0 0), (.int .i64 4)]))
                    (xk_1)))
                (xk_1))))))))
theorem enter.leatref10_value {Pn : PK} {K : Value → WP} {a0 a1 a2 : Value} {w : World} (h : W.leatref10_value Pn K a0 a1 a2 w) : op PR Pn (S.fn F.leatref10_value [a0, a1, a2]) K w :=
  op_call (first := []) (cap := []) (args := [a0, a1, a2]) Go.Proofs.Try.func55 (by kernel_rfl) rfl (calls_of_denF (args := [a0, a1, a2]) (h := (.s none .n (.s none (.s none .n (.c (.s none .n .n) .n)) (.s none .n (.s none (.s none .n (.c (.s none (.s none .n (.c (.s none .n .n) .n)) (.s none .n .n)) .n)) (.s none (.s none .n (.c (.s none (.s none .n (.c (.s none .n .n) .n)) (.s none .n (.s none (.s none .n (.bl (.lp [6, 7, 9, 10] (.s none (.s none .n (.c .n .n)) (.s none (.bl (.s none (.rg (.ev [0, 1, 2, 3, 4, 5, 6, 7, 8, 9] [] (.hv 10 (.ev [11, 12, 13, 14, 15] [] .fin))) [[], [0], [0, 1], [0, 1, 2], [], [], [5], [], [5, 6, 7], [5, 6, 7, 8], [0, 1, 2, 3, 4, 5, 6, 7, 8, 9], [0, 1, 2, 3, 4, 5, 6, 7, 8, 9, 10], [0, 1, 2, 3, 4, 5, 6, 7, 8, 9, 10, 11], [0, 1, 2, 3, 4, 5, 6, 7, 8, 9, 10, 11], [0, 1, 2, 3, 4, 5, 6, 7, 8, 9, 10, 11, 12], [0, 1, 2, 3, 4, 5, 6, 7, 8, 9, 10, 11, 12, 13, 14]]) (.s none (.s none .n (.c (.s none .n .n) .n)) .n))) .n))))) (.s none .n .n)))) .n)) (.s none (.s none .n (.c (.s none .n .n) .n)) (.s none (.s none .n (.c (.s none .n .n) .n)) (.s none (.s none .n (.c (.s none .n .n) .n)) (.s (some []) (.s none .n (.c (.s none .n (.s none (.s none .n (.c (.s none .n .n) .n)) (.s none .n (.c (.s none .n .n) .n)))) .n)) (.s none (.rg (.ev [0, 1, 2, 3, 5, 6] [] (.hv 4 (.ev [] [5, 6] (.hv 7 (.ev [8, 9] [] .fin))))) [[], [0], [0, 1], [], [0, 1, 2, 3], [], [5], [0, 1, 2, 3, 4, 5, 6], [0, 1, 2, 3, 4, 5, 6, 7], [0, 1, 2, 3, 4, 5, 6, 7, 8]]) .n))))))))))) mixed Go.Proofs.Try.func55 rfl (by kernel_rfl) (Eq.mp (by kernel_rfl) h))
/-- leat/schema.all: function 56. -/
def W.schema_all (Pn : PK) (K : Value → WP) (a0 a1 a2 : Value) : WP :=
  op PR Pn (S.alloc 60) fun x6 =>
  op PR Pn (S.fn F.schema_since [(.int .i64 0), a0, a1, a2]) fun x10 =>
  op PR Pn (S.store 60 x6 x10) fun _ =>
  ldR PR 60 x6 fun xr => K xr
theorem enter.schema_all {Pn : PK} {K : Value → WP} {a0 a1 a2 : Value} {w : World} (h : W.schema_all Pn K a0 a1 a2 w) : op PR Pn (S.fn F.schema_all [a0, a1, a2]) K w :=
  op_call (first := []) (cap := []) (args := [a0, a1, a2]) Go.Proofs.Try.func56 (by kernel_rfl) rfl (calls_of_denF (args := [a0, a1, a2]) (h := (.s none .n (.s none .n .n))) mixed Go.Proofs.Try.func56 rfl (by kernel_rfl) (Eq.mp (by kernel_rfl) h))
/-- leat/schema.since: function 57. -/
def W.schema_since (Pn : PK) (K : Value → WP) (a0 a1 a2 a3 : Value) : WP :=
  op PR Pn (S.alloc 60) fun x8 =>
  op PR Pn (S.build 60 [(0, a1), (1, a2), (2, a0), (3, (.int .i64 3)), (4, a3)]) fun x13 =>
  op PR Pn (S.store 60 x8 x13) fun _ =>
  ldR PR 60 x8 fun xr => K xr
theorem enter.schema_since {Pn : PK} {K : Value → WP} {a0 a1 a2 a3 : Value} {w : World} (h : W.schema_since Pn K a0 a1 a2 a3 w) : op PR Pn (S.fn F.schema_since [a0, a1, a2, a3]) K w :=
  op_call (first := []) (cap := []) (args := [a0, a1, a2, a3]) Go.Proofs.Try.func57 (by kernel_rfl) rfl (calls_of_denF (args := [a0, a1, a2, a3]) (h := (.s none .n (.s none .n .n))) mixed Go.Proofs.Try.func57 rfl (by kernel_rfl) (Eq.mp (by kernel_rfl) h))
/-- leat/schema.topics: function 58. -/
def W.schema_topics (Pn : PK) (K : Value → WP) (a0 : Value) : WP :=
  op PR Pn (S.alloc 60) fun x2 =>
  op PR Pn (S.fn F.schema_all [(.string { data := #[112, 97, 114, 116] }), (.int .i64 10), a0]) fun x6 =>
  op PR Pn (S.alloc 60) fun x3 =>
  op PR Pn (S.store 60 x3 x6) fun _ =>
  J1 (fun x4 =>
    op PR Pn (S.load 60 x4) fun x13 =>
    op PR Pn (S.bslice 22 1 [(0, x13)]) fun x14 =>
    op PR Pn (S.fn F.schema_all [(.string { data := #[116, 111, 112, 105, 99, 115] }), (.int .i64 9), x14]) fun x15 =>
    op PR Pn (S.store 60 x2 x15) fun _ =>
    ldR PR 60 x2 fun xr => K xr)
  (fun xk =>
    drawn <|
    lt PR (S.load 60 x3) fun x8 =>
    also
      (op PR Pn (S.fn F.schema_all [(.string { data := #[110, 97, 109, 101] }), (.int .i64 5), (.slice none 0 0)]) fun x7 =>
        rc PR (S.load 60 x3) x8 <|
        also
          (op PR Pn (S.bslice 22 1 [(0, x8)]) fun x9 =>
            also
              (op PR Pn (S.fn F.schema_all [(.string { data := #[112, 97, 114, 116, 115] }), (.int .i64 9), x9]) fun x10 =>
                also
                  (op PR Pn (S.bslice 22 2 [(0, x7), (1, x10)]) fun x11 =>
                    also
                      (op PR Pn (S.fn F.schema_all [(.string { data := #[116, 111, 112, 105, 99] }), (.int .i64 10), x11]) fun x12 =>
                        op PR Pn (S.alloc 60) fun x4_1 =>
                        op PR Pn (S.store 60 x4_1 x12) fun _ =>
                        xk x4_1)
                      (op PR Pn (S.alloc 60) fun x4_2 =>
                        op PR Pn (S.fn F.schema_all [(.string { data := #[116, 111, 112, 105, 99] }), (.int .i64 10), x11]) fun x12_1 =>
                        op PR Pn (S.store 60 x4_2 x12_1) fun _ =>
                        xk x4_2))
                  (op PR Pn (S.alloc 60) fun x4_3 =>
                    op PR Pn (S.bslice 22 2 [(0, x7), (1, x10)]) fun x11_1 =>
                    op PR Pn (S.fn F.schema_all [(.string { data := #[116, 111, 112, 105, 99] }), (.int .i64 10), x11_1]) fun x12_2 =>
                    op PR Pn (S.store 60 x4_3 x12_2) fun _ =>
                    xk x4_3))
              (op PR Pn (S.alloc 60) fun x4_4 =>
                op PR Pn (S.fn F.schema_all [(.string { data := #[112, 97, 114, 116, 115] }), (.int .i64 9), x9]) fun x10_1 =>
                op PR Pn (S.bslice 22 2 [(0, x7), (1, x10_1)]) fun x11_2 =>
                op PR Pn (S.fn F.schema_all [(.string { data := #[116, 111, 112, 105, 99] }), (.int .i64 10), x11_2]) fun x12_3 =>
                op PR Pn (S.store 60 x4_4 x12_3) fun _ =>
                xk x4_4))
          (op PR Pn (S.alloc 60) fun x4_5 =>
            rc PR (S.load 60 x3) x8 <|
            op PR Pn (S.bslice 22 1 [(0, x8)]) fun x9_1 =>
            op PR Pn (S.fn F.schema_all [(.string { data := #[112, 97, 114, 116, 115] }), (.int .i64 9), x9_1]) fun x10_2 =>
            op PR Pn (S.bslice 22 2 [(0, x7), (1, x10_2)]) fun x11_3 =>
            op PR Pn (S.fn F.schema_all [(.string { data := #[116, 111, 112, 105, 99] }), (.int .i64 10), x11_3]) fun x12_4 =>
            op PR Pn (S.store 60 x4_5 x12_4) fun _ =>
            xk x4_5))
      (also
          (op PR Pn (S.bslice 22 1 [(0, x8)]) fun x9_2 =>
            also
              (op PR Pn (S.fn F.schema_all [(.string { data := #[110, 97, 109, 101] }), (.int .i64 5), (.slice none 0 0)]) fun x7_1 =>
                also
                  (op PR Pn (S.fn F.schema_all [(.string { data := #[112, 97, 114, 116, 115] }), (.int .i64 9), x9_2]) fun x10_3 =>
                    also
                      (op PR Pn (S.bslice 22 2 [(0, x7_1), (1, x10_3)]) fun x11_4 =>
                        also
                          (op PR Pn (S.fn F.schema_all [(.string { data := #[116, 111, 112, 105, 99] }), (.int .i64 10), x11_4]) fun x12_5 =>
                            op PR Pn (S.alloc 60) fun x4_6 =>
                            op PR Pn (S.store 60 x4_6 x12_5) fun _ =>
                            xk x4_6)
                          (op PR Pn (S.alloc 60) fun x4_7 =>
                            op PR Pn (S.fn F.schema_all [(.string { data := #[116, 111, 112, 105, 99] }), (.int .i64 10), x11_4]) fun x12_6 =>
                            op PR Pn (S.store 60 x4_7 x12_6) fun _ =>
                            xk x4_7))
                      (op PR Pn (S.alloc 60) fun x4_8 =>
                        op PR Pn (S.bslice 22 2 [(0, x7_1), (1, x10_3)]) fun x11_5 =>
                        op PR Pn (S.fn F.schema_all [(.string { data := #[116, 111, 112, 105, 99] }), (.int .i64 10), x11_5]) fun x12_7 =>
                        op PR Pn (S.store 60 x4_8 x12_7) fun _ =>
                        xk x4_8))
                  (op PR Pn (S.alloc 60) fun x4_9 =>
                    op PR Pn (S.fn F.schema_all [(.string { data := #[112, 97, 114, 116, 115] }), (.int .i64 9), x9_2]) fun x10_4 =>
                    op PR Pn (S.bslice 22 2 [(0, x7_1), (1, x10_4)]) fun x11_6 =>
                    op PR Pn (S.fn F.schema_all [(.string { data := #[116, 111, 112, 105, 99] }), (.int .i64 10), x11_6]) fun x12_8 =>
                    op PR Pn (S.store 60 x4_9 x12_8) fun _ =>
                    xk x4_9))
              (op PR Pn (S.alloc 60) fun x4_10 =>
                op PR Pn (S.fn F.schema_all [(.string { data := #[110, 97, 109, 101] }), (.int .i64 5), (.slice none 0 0)]) fun x7_2 =>
                op PR Pn (S.fn F.schema_all [(.string { data := #[112, 97, 114, 116, 115] }), (.int .i64 9), x9_2]) fun x10_5 =>
                op PR Pn (S.bslice 22 2 [(0, x7_2), (1, x10_5)]) fun x11_7 =>
                op PR Pn (S.fn F.schema_all [(.string { data := #[116, 111, 112, 105, 99] }), (.int .i64 10), x11_7]) fun x12_9 =>
                op PR Pn (S.store 60 x4_10 x12_9) fun _ =>
                xk x4_10))
          (op PR Pn (S.alloc 60) fun x4_11 =>
            rc PR (S.load 60 x3) x8 <|
            also
              (op PR Pn (S.fn F.schema_all [(.string { data := #[110, 97, 109, 101] }), (.int .i64 5), (.slice none 0 0)]) fun x7_3 =>
                rc PR (S.load 60 x3) x8 <|
                op PR Pn (S.bslice 22 1 [(0, x8)]) fun x9_3 =>
                op PR Pn (S.fn F.schema_all [(.string { data := #[112, 97, 114, 116, 115] }), (.int .i64 9), x9_3]) fun x10_6 =>
                op PR Pn (S.bslice 22 2 [(0, x7_3), (1, x10_6)]) fun x11_8 =>
                op PR Pn (S.fn F.schema_all [(.string { data := #[116, 111, 112, 105, 99] }), (.int .i64 10), x11_8]) fun x12_10 =>
                op PR Pn (S.store 60 x4_11 x12_10) fun _ =>
                xk x4_11)
              (op PR Pn (S.bslice 22 1 [(0, x8)]) fun x9_4 =>
                op PR Pn (S.fn F.schema_all [(.string { data := #[110, 97, 109, 101] }), (.int .i64 5), (.slice none 0 0)]) fun x7_4 =>
                op PR Pn (S.fn F.schema_all [(.string { data := #[112, 97, 114, 116, 115] }), (.int .i64 9), x9_4]) fun x10_7 =>
                op PR Pn (S.bslice 22 2 [(0, x7_4), (1, x10_7)]) fun x11_9 =>
                op PR Pn (S.fn F.schema_all [(.string { data := #[116, 111, 112, 105, 99] }), (.int .i64 10), x11_9]) fun x12_11 =>
                op PR Pn (S.store 60 x4_11 x12_11) fun _ =>
                xk x4_11))))
theorem enter.schema_topics {Pn : PK} {K : Value → WP} {a0 : Value} {w : World} (h : W.schema_topics Pn K a0 w) : op PR Pn (S.fn F.schema_topics [a0]) K w :=
  op_call (first := []) (cap := []) (args := [a0]) Go.Proofs.Try.func58 (by kernel_rfl) rfl (calls_of_denF (args := [a0]) (h := (.s none .n (.s none .n (.s (some [4]) (.rg (.ev [1] [] (.fork (.hv 0 (.ev [] [1] (.fork (.hv 2 (.fork (.hv 3 (.fork (.hv 4 (.fork (.hv 5 (.hv 6 (.hv 7 .fin))) (.hv 6 (.hv 5 (.hv 7 .fin))))) (.hv 6 (.hv 4 (.hv 5 (.hv 7 .fin)))))) (.hv 6 (.hv 3 (.hv 4 (.hv 5 (.hv 7 .fin))))))) (.hv 6 (.ev [] [1] (.hv 2 (.hv 3 (.hv 4 (.hv 5 (.hv 7 .fin)))))))))) (.fork (.hv 2 (.fork (.hv 0 (.fork (.hv 3 (.fork (.hv 4 (.fork (.hv 5 (.hv 6 (.hv 7 .fin))) (.hv 6 (.hv 5 (.hv 7 .fin))))) (.hv 6 (.hv 4 (.hv 5 (.hv 7 .fin)))))) (.hv 6 (.hv 3 (.hv 4 (.hv 5 (.hv 7 .fin))))))) (.hv 6 (.hv 0 (.hv 3 (.hv 4 (.hv 5 (.hv 7 .fin)))))))) (.hv 6 (.ev [] [1] (.fork (.hv 0 (.ev [] [1] (.hv 2 (.hv 3 (.hv 4 (.hv 5 (.hv 7 .fin))))))) (.hv 2 (.hv 0 (.hv 3 (.hv 4 (.hv 5 (.hv 7 .fin)))))))))))) [[], [], [1], [0, 1, 2], [0, 1, 2, 3], [0, 1, 2, 3, 4], [], [0, 1, 2, 3, 4, 5, 6]]) (.s none .n .n))))) mixed Go.Proofs.Try.func58 rfl (by kernel_rfl) (Eq.mp (by kernel_rfl) h))
/-- leat/schema.list$1: function 59. -/
def W.schema_list_1 (Pn : PK) (K : Value → WP) (a0 a1 a2 : Value) : WP :=
  op PR Pn (S.alloc 60) fun x6 =>
  op PR Pn (S.build 60 [(0, a0), (1, a1), (4, a2)]) fun x10 =>
  op PR Pn (S.store 60 x6 x10) fun _ =>
  ldR PR 60 x6 fun xr => K xr
theorem enter.schema_list_1 {Pn : PK} {K : Value → WP} {a0 a1 a2 : Value} {w : World} (h : W.schema_list_1 Pn K a0 a1 a2 w) : op PR Pn (S.fn F.schema_list_1 [a0, a1, a2]) K w :=
  op_call (first := []) (cap := []) (args := [a0, a1, a2]) Go.Proofs.Try.func59 (by kernel_rfl) rfl (calls_of_denF (args := [a0, a1, a2]) (h := (.s none .n (.s none .n .n))) mixed Go.Proofs.Try.func59 rfl (by kernel_rfl) (Eq.mp (by kernel_rfl) h))
/-- leat/schema.field: function 60. -/
def W.schema_field (Pn : PK) (K : Value → WP) (a0 a1 : Value) : WP :=
  op PR Pn (S.box 60 a0) fun x2 =>
  op PR Pn (S.fa 60 x2 2) fun x6 =>
  op PR Pn (S.load 3 x6) fun x7 =>
  op PR Pn (S.bin .lss 3 (.tmp 7) (.const (.int .i64 0)) x7 (.int .i64 0)) fun x8 =>
  gop PR Pn x8 false (S.fa 60 x2 3) fun x10 =>
  gop PR Pn x8 false (S.load 3 x10) fun x11 =>
  gop PR Pn x8 false (S.bin .gtr 3 (.tmp 11) (.const (.int .i64 3)) x11 (.int .i64 3)) fun x12 =>
  op PR Pn (S.pick x8 (.bool true) x12) fun x13 =>
  gop PR Pn x13 false (S.fa 60 x2 2) fun x15 =>
  gop PR Pn x13 false (S.load 3 x15) fun x16 =>
  gop PR Pn x13 false (S.fa 60 x2 3) fun x17 =>
  gop PR Pn x13 false (S.load 3 x17) fun x18 =>
  gop PR Pn x13 false (S.bin .gtr 3 (.tmp 16) (.tmp 18) x16 x18) fun x19 =>
  op PR Pn (S.pick x13 (.bool true) x19) fun x20 =>
  ite' x20
  (K (.bool false))
  (op PR Pn (S.fa 60 x2 1) fun x21 =>
    op PR Pn (S.load 3 x21) fun x22 =>
    J1 (fun x23 =>
      ite' x23
      (op PR Pn (S.fa 60 x2 4) fun x32 =>
        op PR Pn (S.load 22 x32) fun x33 =>
        op PR Pn (S.bi .len #[22] 3 [false] [x33]) fun x34 =>
        op PR Pn (S.bin .eql 3 (.tmp 34) (.const (.int .i64 0)) x34 (.int .i64 0)) fun x35 =>
        K x35)
      (op PR Pn (S.bin .eql 3 (.tmp 22) (.const (.int .i64 9)) x22 (.int .i64 9)) fun x37 =>
        ite' x37
        (drawn <|
          lt PR (S.fa 60 x2 4) fun x38 =>
          lt PR (S.load 22 x38) fun x39 =>
          lt PR (S.bi .len #[22] 3 [false] [x39]) fun x40 =>
          lt PR (S.bin .eql 3 (.tmp 40) (.const (.int .i64 1)) x40 (.int .i64 1)) fun x41 =>
          lt PR (S.mv x41) fun x42 =>
          glt PR x42 true (S.fa 60 x2 4) fun x43 =>
          glt PR x42 true (S.load 22 x43) fun x44 =>
          glt PR x42 true (S.ia 22 x44 (.int .i64 0)) fun x45 =>
          glt PR x42 true (S.fa 60 x45 2) fun x46 =>
          glt PR x42 true (S.load 3 x46) fun x47 =>
          glt PR x42 true (S.fa 60 x2 2) fun x48 =>
          glt PR x42 true (S.load 3 x48) fun x49 =>
          glt PR x42 true (S.bin .leq 3 (.tmp 47) (.tmp 49) x47 x49) fun x50 =>
          lt PR (S.pick x42 x50 (.bool false)) fun x51 =>
          lt PR (S.mv x51) fun x52 =>
          glt PR x52 true (S.fa 60 x2 4) fun x53 =>
          glt PR x52 true (S.load 22 x53) fun x54 =>
          glt PR x52 true (S.ia 22 x54 (.int .i64 0)) fun x55 =>
          glt PR x52 true (S.fa 60 x55 3) fun x56 =>
          glt PR x52 true (S.load 3 x56) fun x57 =>
          glt PR x52 true (S.fa 60 x2 3) fun x58 =>
          glt PR x52 true (S.load 3 x58) fun x59 =>
          glt PR x52 true (S.bin .geq 3 (.tmp 57) (.tmp 59) x57 x59) fun x60 =>
          lt PR (S.pick x52 x60 (.bool false)) fun x61 =>
          lt PR (S.mv x61) fun x62 =>
          glt PR x62 true (S.fa 60 x2 4) fun x63 =>
          glt PR x62 true (S.load 22 x63) fun x64 =>
          glt PR x62 true (S.mv a1) fun x65 =>
          glt PR x62 true (S.bin .add 3 (.tmp 65) (.const (.int .i64 1)) x65 (.int .i64 1)) fun x66 =>
          gop PR Pn x62 true (S.fn F.schema_fields [x64, x66]) fun x67 =>
          lt PR (S.pick x62 x67 (.bool false)) fun x68 =>
          lt PR (S.mv x68) fun x4 =>
          K x4)
        (op PR Pn (S.bin .eql 3 (.tmp 22) (.const (.int .i64 10)) x22 (.int .i64 10)) fun x70 =>
          ite' x70
          (op PR Pn (S.fa 60 x2 2) fun x71 =>
            op PR Pn (S.load 3 x71) fun x72 =>
            L2 (.bool false) x72 (fun x4_1 x5 xk =>
              op PR Pn (S.fa 60 x2 3) fun x74 =>
              op PR Pn (S.load 3 x74) fun x75 =>
              op PR Pn (S.bin .leq 3 (.tmp 73) (.tmp 75) x5 x75) fun x76 =>
              ite' x76
              (op PR Pn (S.fa 60 x2 4) fun x79 =>
                op PR Pn (S.load 22 x79) fun x80 =>
                op PR Pn (S.fn F.schema_present [x80, x5]) fun x82 =>
                op PR Pn (S.bi .len #[22] 3 [false] [x82]) fun x83 =>
                op PR Pn (S.bin .eql 3 (.tmp 83) (.const (.int .i64 0)) x83 (.int .i64 0)) fun x84 =>
                ite' x84
                (K (.bool false))
                (op PR Pn (S.bin .add 3 (.tmp 77) (.const (.int .i64 1)) x5 (.int .i64 1)) fun x78 =>
                  xk x4_1 x78))
              (op PR Pn (S.fa 60 x2 4) fun x85 =>
                op PR Pn (S.load 22 x85) fun x86 =>
                op PR Pn (S.bin .add 3 (.tmp 87) (.const (.int .i64 1)) a1 (.int .i64 1)) fun x88 =>
                op PR Pn (S.fn F.schema_fields [x86, x88]) fun x89 =>
                K x89)))
          (K (.bool false)))))
    (fun xk_1 =>
      op PR Pn (S.bin .eql 3 (.tmp 22) (.const (.int .i64 1)) x22 (.int .i64 1)) fun x24 =>
      ite' x24
      (xk_1 x24)
      (op PR Pn (S.bin .eql 3 (.tmp 22) (.const (.int .i64 2)) x22 (.int .i64 2)) fun x25 =>
        ite' x25
        (xk_1 x25)
        (op PR Pn (S.bin .eql 3 (.tmp 22) (.const (.int .i64 3)) x22 (.int .i64 3)) fun x26 =>
          ite' x26
          (xk_1 x26)
          (op PR Pn (S.bin .eql 3 (.tmp 22) (.const (.int .i64 4)) x22 (.int .i64 4)) fun x27 =>
            ite' x27
            (xk_1 x27)
            (op PR Pn (S.bin .eql 3 (.tmp 22) (.const (.int .i64 5)) x22 (.int .i64 5)) fun x28 =>
              ite' x28
              (xk_1 x28)
              (op PR Pn (S.bin .eql 3 (.tmp 22) (.const (.int .i64 6)) x22 (.int .i64 6)) fun x29 =>
                ite' x29
                (xk_1 x29)
                (op PR Pn (S.bin .eql 3 (.tmp 22) (.const (.int .i64 7)) x22 (.int .i64 7)) fun x30 =>
                  ite' x30
                  (xk_1 x30)
                  (op PR Pn (S.bin .eql 3 (.tmp 22) (.const (.int .i64 8)) x22 (.int .i64 8)) fun x31 =>
                    xk_1 x31)))))))))
theorem enter.schema_field {Pn : PK} {K : Value → WP} {a0 a1 : Value} {w : World} (h : W.schema_field Pn K a0 a1 w) : op PR Pn (S.fn F.schema_field [a0, a1]) K w :=
  op_call (first := []) (cap := []) (args := [a0, a1]) Go.Proofs.Try.func60 (by kernel_rfl) rfl (calls_of_denF (args := [a0, a1]) (h := (.s none .n (.s none (.s none .n (.c (.s none .n .n) .n)) (.s none (.s none .n (.bl (.s (some [23]) (.s none .n (.c .n (.s none .n (.c .n (.s none .n (.c .n (.s none .n (.c .n (.s none .n (.c .n (.s none .n (.c .n (.s none .n (.c .n .n)))))))))))))) (.c (.s none .n .n) (.s none .n (.c (.s none (.rg (.ev [0, 1, 2, 3, 4, 5, 6, 7, 8, 9, 10, 11, 12, 13, 14, 15, 16, 17, 18, 19, 20, 21, 22, 23, 24, 25, 26, 27, 28] [] (.hv 29 (.ev [30, 31] [] .fin))) [[], [0], [0, 1], [0, 1, 2], [0, 1, 2, 3], [0, 1, 2, 3, 4], [0, 1, 2, 3, 4, 5], [0, 1, 2, 3, 4, 5, 6], [0, 1, 2, 3, 4, 5, 6, 7], [0, 1, 2, 3, 4, 5, 6, 7, 8], [0, 1, 2, 3, 4], [0, 1, 2, 3, 4, 10], [0, 1, 2, 3, 4, 5, 6, 7, 8, 9, 10, 11], [0, 1, 2, 3, 4, 5, 6, 7, 8, 9, 10, 11, 12], [0, 1, 2, 3, 4, 5, 6, 7, 8, 9, 10, 11, 12, 13], [0, 1, 2, 3, 4, 5, 6, 7, 8, 9, 10, 11, 12, 13, 14], [0, 1, 2, 3, 4, 5, 6, 7, 8, 9, 10, 11, 12, 13, 14, 15], [0, 1, 2, 3, 4, 5, 6, 7, 8, 9, 10, 11, 12, 13, 14, 15, 16], [0, 1, 2, 3, 4, 5, 6, 7, 8, 9, 10, 11, 12, 13, 14, 15, 16, 17], [0, 1, 2, 3, 4, 5, 6, 7, 8, 9, 10, 11, 12, 13, 14, 15, 16, 17, 18], [0, 1, 2, 3, 4, 5, 6, 7, 8, 9, 10, 11, 12, 13, 14], [0, 1, 2, 3, 4, 5, 6, 7, 8, 9, 10, 11, 12, 13, 14, 20], [0, 1, 2, 3, 4, 5, 6, 7, 8, 9, 10, 11, 12, 13, 14, 15, 16, 17, 18, 19, 20, 21], [0, 1, 2, 3, 4, 5, 6, 7, 8, 9, 10, 11, 12, 13, 14, 15, 16, 17, 18, 19, 20, 21, 22], [0, 1, 2, 3, 4, 5, 6, 7, 8, 9, 10, 11, 12, 13, 14, 15, 16, 17, 18, 19, 20, 21, 22, 23], [0, 1, 2, 3, 4, 5, 6, 7, 8, 9, 10, 11, 12, 13, 14, 15, 16, 17, 18, 19, 20, 21, 22, 23, 24], [0, 1, 2, 3, 4, 5, 6, 7, 8, 9, 10, 11, 12, 13, 14, 15, 16, 17, 18, 19, 20, 21, 22, 23, 24, 25], [0, 1, 2, 3, 4, 5, 6, 7, 8, 9, 10, 11, 12, 13, 14, 15, 16, 17, 18, 19, 20, 21, 22, 23, 24], [0, 1, 2, 3, 4, 5, 6, 7, 8, 9, 10, 11, 12, 13, 14, 15, 16, 17, 18, 19, 20, 21, 22, 23, 24, 27], [0, 1, 2, 3, 4, 5, 6, 7, 8, 9, 10, 11, 12, 13, 14, 15, 16, 17, 18, 19, 20, 21, 22, 23, 24, 25, 26, 27, 28], [0, 1, 2, 3, 4, 5, 6, 7, 8, 9, 10, 11, 12, 13, 14, 15, 16, 17, 18, 19, 20, 21, 22, 23, 24, 25, 26, 27, 28, 29], [0, 1, 2, 3, 4, 5, 6, 7, 8, 9, 10, 11, 12, 13, 14, 15, 16, 17, 18, 19, 20, 21, 22, 23, 24, 25, 26, 27, 28, 29, 30]]) .n) (.s none .n (.c (.s none (.s none .n (.bl (.lp [4, 5] (.s none (.s none .n (.c .n .n)) (.s none (.bl (.s none .n (.c (.s none .n .n) .n))) .n))))) (.s none .n .n)) .n)))))))) (.s none .n .n))))) mixed Go.Proofs.Try.func60 rfl (by kernel_rfl) (Eq.mp (by kernel_rfl) h))
/-- leat/leatref10.list: function 61. -/
def W.leatref10_list (Pn : PK) (K : Value → WP) (a0 a1 : Value) : WP :=
  op PR Pn (S.bi .len #[22] 3 [false] [a0]) fun x8 =>
  op PR Pn (S.bin .lss 3 (.tmp 8) (.const (.int .i64 1)) x8 (.int .i64 1)) fun x9 =>
  gop PR Pn x9 false (S.mv a0) fun x11 =>
  gop PR Pn x9 false (S.bi .len #[22] 3 [false] [x11]) fun x12 =>
  gop PR Pn x9 false (S.bin .gtr 3 (.tmp 12) (.const (.int .i64 16)) x12 (.int .i64 16)) fun x13 =>
  op PR Pn (S.pick x9 (.bool true) x13) fun x14 =>
  gop PR Pn x14 false (S.mv a1) fun x16 =>
  gop PR Pn x14 false (S.bin .gtr 3 (.tmp 16) (.const (.int .i64 8)) x16 (.int .i64 8)) fun x17 =>
  op PR Pn (S.pick x14 (.bool true) x17) fun x18 =>
  ite' x18
  (K (.bool false))
  (L2 (.bool false) (.int .i64 0) (fun x4 x5 xk =>
      op PR Pn (S.bi .len #[22] 3 [false] [a0]) fun x21 =>
      op PR Pn (S.bin .lss 3 (.tmp 19) (.tmp 21) x5 x21) fun x22 =>
      ite' x22
      (L2 x4 (.int .i64 0) (fun x4_1 x6 xk_1 =>
          op PR Pn (S.bin .lss 3 (.tmp 25) (.tmp 26) x6 x5) fun x27 =>
          ite' x27
          (drawn <|
            lt PR (S.mv a0) fun x30 =>
            lt PR (S.mv x6) fun x31 =>
            lt PR (S.ia 22 x30 x31) fun x32 =>
            lt PR (S.fa 60 x32 0) fun x33 =>
            lt PR (S.load 9 x33) fun x34 =>
            lt PR (S.mv a0) fun x35 =>
            lt PR (S.mv x5) fun x36 =>
            lt PR (S.ia 22 x35 x36) fun x37 =>
            lt PR (S.fa 60 x37 0) fun x38 =>
            lt PR (S.load 9 x38) fun x39 =>
            lt PR (S.bin .eql 9 (.tmp 34) (.tmp 39) x34 x39) fun x40 =>
            ite' x40
            (K (.bool false))
            (op PR Pn (S.bin .add 3 (.tmp 28) (.const (.int .i64 1)) x6 (.int .i64 1)) fun x29 =>
              xk_1 x4_1 x29))
          (op PR Pn (S.ia 22 a0 x5) fun x43 =>
            op PR Pn (S.load 60 x43) fun x44 =>
            op PR Pn (S.fn F.leatref10_field [x44, a1]) fun x46 =>
            op PR Pn (S.un .not x46) fun x47 =>
            ite' x47
            (K (.bool false))
            (op PR Pn (S.bin .add 3 (.tmp 23) (.const (.int .i64 1)) x5 (.int .i64 1)) fun x24 =>
              xk x4_1 x24))))
      (K (.bool true))))
theorem enter.leatref10_list {Pn : PK} {K : Value → WP} {a0 a1 : Value} {w : World} (h : W.leatref10_list Pn K a0 a1 w) : op PR Pn (S.fn F.leatref10_list [a0, a1]) K w :=
  op_call (first := []) (cap := []) (args := [a0, a1]) Go.Proofs.Try.func61 (by kernel_rfl) rfl (calls_of_denF (args := [a0, a1]) (h := (.s none .n (.s none (.s none .n (.c (.s none .n .n) .n)) (.s none (.s none .n (.bl (.lp [4, 5] (.s none (.s none .n (.c .n .n)) (.s none (.bl (.s none (.s none .n (.bl (.lp [4, 6] (.s none (.s none .n (.c .n .n)) (.s none (.bl (.s none (.rg (.ev [0, 1, 2, 3, 4, 5, 6, 7, 8, 9, 10] [] .fin) [[], [], [0, 1], [0, 1, 2], [0, 1, 2, 3], [], [], [5, 6], [5, 6, 7], [5, 6, 7, 8], [0, 1, 2, 3, 4, 5, 6, 7, 8, 9]]) (.c (.s none .n .n) .n))) .n))))) (.s none .n (.c (.s none .n .n) .n)))) .n))))) (.s none .n .n))))) mixed Go.Proofs.Try.func61 rfl (by kernel_rfl) (Eq.mp (by kernel_rfl) h))
/-- leat/leatref10.here: function 62. -/
def W.leatref10_here (Pn : PK) (K : Value → WP) (a0 a1 : Value) : WP :=
  op PR Pn (S.box 60 a0) fun x2 =>
  op PR Pn (S.fa 60 x2 2) fun x6 =>
  op PR Pn (S.load 3 x6) fun x7 =>
  op PR Pn (S.bin .geq 3 (.tmp 5) (.tmp 7) a1 x7) fun x8 =>
  gop PR Pn x8 true (S.mv a1) fun x10 =>
  gop PR Pn x8 true (S.fa 60 x2 3) fun x11 =>
  gop PR Pn x8 true (S.load 3 x11) fun x12 =>
  gop PR Pn x8 true (S.bin .leq 3 (.tmp 10) (.tmp 12) x10 x12) fun x13 =>
  op PR Pn (S.pick x8 x13 (.bool false)) fun x14 =>
  K x14
theorem enter.leatref10_here {Pn : PK} {K : Value → WP} {a0 a1 : Value} {w : World} (h : W.leatref10_here Pn K a0 a1 w) : op PR Pn (S.fn F.leatref10_here [a0, a1]) K w :=
  op_call (first := []) (cap := []) (args := [a0, a1]) Go.Proofs.Try.func62 (by kernel_rfl) rfl (calls_of_denF (args := [a0, a1]) (h := (.s none .n (.s none .n .n))) mixed Go.Proofs.Try.func62 rfl (by kernel_rfl) (Eq.mp (by kernel_rfl) h))
/-- leat/leatref10.width: function 63. -/
def W.leatref10_width (Pn : PK) (K : Value → WP) (a0 : Value) : WP :=
  op PR Pn (S.bin .eql 3 (.tmp 3) (.const (.int .i64 1)) a0 (.int .i64 1)) fun x5 =>
  ite' x5
  (K (.int .i64 1))
  (J1 (fun x6 =>
      ite' x6
      (K (.int .i64 2))
      (op PR Pn (S.bin .eql 3 (.tmp 3) (.const (.int .i64 4)) a0 (.int .i64 4)) fun x11 =>
        ite' x11
        (K (.int .i64 8))
        (K (.int .i64 4))))
    (fun xk =>
      op PR Pn (S.bin .eql 3 (.tmp 3) (.const (.int .i64 2)) a0 (.int .i64 2)) fun x7 =>
      ite' x7
      (xk x7)
      (op PR Pn (S.bin .eql 3 (.tmp 3) (.const (.int .i64 5)) a0 (.int .i64 5)) fun x8 =>
        ite' x8
        (xk x8)
        (op PR Pn (S.bin .eql 3 (.tmp 3) (.const (.int .i64 6)) a0 (.int .i64 6)) fun x9 =>
          xk x9))))
theorem enter.leatref10_width {Pn : PK} {K : Value → WP} {a0 : Value} {w : World} (h : W.leatref10_width Pn K a0 w) : op PR Pn (S.fn F.leatref10_width [a0]) K w :=
  op_call (first := []) (cap := []) (args := [a0]) Go.Proofs.Try.func63 (by kernel_rfl) rfl (calls_of_denF (args := [a0]) (h := (.s none .n (.s none (.s none .n (.bl (.s none .n (.c (.s none .n .n) (.s (some [6]) (.s none .n (.c .n (.s none .n (.c .n .n)))) (.c (.s none .n .n) (.s none .n (.c (.s none .n .n) .n)))))))) (.s none .n .n)))) mixed Go.Proofs.Try.func63 rfl (by kernel_rfl) (Eq.mp (by kernel_rfl) h))
/-- leat/leatref01.Number: function 64. -/
def W.leatref01_Number (Pn : PK) (K : Value → WP) (a0 a1 a2 : Value) : WP :=
  op PR Pn (S.bin .lss 3 (.tmp 11) (.const (.int .i64 0)) a1 (.int .i64 0)) fun x12 =>
  gop PR Pn x12 false (S.mv a1) fun x14 =>
  gop PR Pn x12 false (S.mv a0) fun x15 =>
  gop PR Pn x12 false (S.bi .len #[23] 3 [false] [x15]) fun x16 =>
  gop PR Pn x12 false (S.bin .gtr 3 (.tmp 14) (.tmp 16) x14 x16) fun x17 =>
  op PR Pn (S.pick x12 (.bool true) x17) fun x18 =>
  gop PR Pn x18 false (S.mv a2) fun x20 =>
  gop PR Pn x18 false (S.mv a0) fun x21 =>
  gop PR Pn x18 false (S.bi .len #[23] 3 [false] [x21]) fun x22 =>
  gop PR Pn x18 false (S.mv a1) fun x23 =>
  gop PR Pn x18 false (S.bin .sub 3 (.tmp 22) (.tmp 23) x22 x23) fun x24 =>
  gop PR Pn x18 false (S.bin .gtr 3 (.tmp 20) (.tmp 24) x20 x24) fun x25 =>
  op PR Pn (S.pick x18 (.bool true) x25) fun x26 =>
  ite' x26
  (K (.tuple #[(.int .i64 0), (.bool false)]))
  (L2 (.int .i64 0) (.int .i64 0) (fun x8 x9 xk =>
      op PR Pn (S.bin .lss 3 (.tmp 27) (.tmp 28) x9 a2) fun x29 =>
      ite' x29
      (op PR Pn (S.bin .add 3 (.tmp 33) (.tmp 34) a1 x9) fun x35 =>
        op PR Pn (S.ia 23 a0 x35) fun x36 =>
        op PR Pn (S.load 5 x36) fun x37 =>
        op PR Pn (S.conv 5 2 x37) fun x38 =>
        J1 (fun x10 =>
          op PR Pn (S.bin .mul 2 (.tmp 47) (.const (.int .i64 256)) x8 (.int .i64 256)) fun x48 =>
          op PR Pn (S.bin .add 2 (.tmp 48) (.tmp 49) x48 x10) fun x50 =>
          op PR Pn (S.bin .add 3 (.tmp 30) (.const (.int .i64 1)) x9 (.int .i64 1)) fun x31 =>
          xk x50 x31)
        (fun xk_1 =>
          op PR Pn (S.bin .eql 3 (.tmp 39) (.const (.int .i64 0)) x9 (.int .i64 0)) fun x40 =>
          gop PR Pn x40 true (S.mv x38) fun x42 =>
          gop PR Pn x40 true (S.bin .geq 2 (.tmp 42) (.const (.int .i64 128)) x42 (.int .i64 128)) fun x43 =>
          op PR Pn (S.pick x40 x43 (.bool false)) fun x44 =>
          ite' x44
          (op PR Pn (S.bin .sub 2 (.tmp 45) (.const (.int .i64 256)) x38 (.int .i64 256)) fun x46 =>
            xk_1 x46)
          (xk_1 x38)))
      (K (.tuple #[x8, (.bool true)]))))
theorem enter.leatref01_Number {Pn : PK} {K : Value → WP} {a0 a1 a2 : Value} {w : World} (h : W.leatref01_Number Pn K a0 a1 a2 w) : op PR Pn (S.fn F.leatref01_Number [a0, a1, a2]) K w :=
  op_call (first := []) (cap := []) (args := [a0, a1, a2]) Go.Proofs.Try.func64 (by kernel_rfl) rfl (calls_of_denF (args := [a0, a1, a2]) (h := (.s none .n (.s none (.s none .n (.c (.s none .n .n) .n)) (.s none .n (.s none (.s none .n (.bl (.lp [8, 9] (.s none (.s none .n (.c .n .n)) (.s none (.bl (.s none .n (.s (some [10]) (.s none .n (.c .n .n)) .n))) .n))))) (.s none .n .n)))))) mixed Go.Proofs.Try.func64 rfl (by kernel_rfl) (Eq.mp (by kernel_rfl) h))
/-- leat/leatref10.readItems: function 65. -/
def W.leatref10_readItems (Pn : PK) (K : Value → WP) (a0 a1 a2 a3 a4 : Value) : WP :=
  op PR Pn (S.box 60 a0) fun x5 =>
  op PR Pn (S.alloc 29) fun x10 =>
  op PR Pn (S.bin .gtr 2 (.tmp 18) (.const (.int .i64 16)) a4 (.int .i64 16)) fun x19 =>
  ite' x19
  (op PR Pn (S.build 29 []) fun x20 =>
    op PR Pn (S.store 29 x10 x20) fun _ =>
    ldR PR 29 x10 fun xr => K (.tuple #[xr, (.int .i64 0), (.int .i64 9)]))
  (op PR Pn (S.bslice 27 0 []) fun x21 =>
    L5 a3 (.int .i64 0) (.int .i64 0) x21 (.int .i64 0) (fun x3 x11 x12 x13 x14 xk =>
      op PR Pn (S.bin .lss 3 (.tmp 22) (.tmp 23) x14 a4) fun x24 =>
      ite' x24
      (op PR Pn (S.fa 60 x5 4) fun x28 =>
        op PR Pn (S.load 22 x28) fun x29 =>
        op PR Pn (S.ia 22 x29 (.int .i64 0)) fun x30 =>
        op PR Pn (S.load 60 x30) fun x31 =>
        op PR Pn (S.fn F.leatref10_read [x31, a1, a2, x3]) fun x35 =>
        op PR Pn (S.ext x35 0) fun x36 =>
        op PR Pn (S.ext x35 1) fun x37 =>
        op PR Pn (S.ext x35 2) fun x38 =>
        op PR Pn (S.alloc 29) fun x15 =>
        op PR Pn (S.store 29 x15 x36) fun _ =>
        op PR Pn (S.bin .neq 3 (.tmp 39) (.const (.int .i64 0)) x38 (.int .i64 0)) fun x40 =>
        ite' x40
        (op PR Pn (S.build 29 []) fun x41 =>
          op PR Pn (S.store 29 x10 x41) fun _ =>
          ldR PR 29 x10 fun xr_1 => K (.tuple #[xr_1, (.int .i64 0), x38]))
        (op PR Pn (S.load 29 x15) fun x44 =>
          op PR Pn (S.bslice 27 1 [(0, x44)]) fun x45 =>
          op PR Pn (S.bi .append #[27, 27] 27 [false, false] [x13, x45]) fun x46 =>
          op PR Pn (S.bin .add 3 (.tmp 25) (.const (.int .i64 1)) x14 (.int .i64 1)) fun x26 =>
          xk x37 x11 x12 x46 x26))
      (op PR Pn (S.build 29 [(0, (.int .i64 9)), (4, x13)]) fun x49 =>
        op PR Pn (S.store 29 x10 x49) fun _ =>
        ldR PR 29 x10 fun xr_2 => K (.tuple #[xr_2, x3, (.int .i64 0)]))))
theorem enter.leatref10_readItems {Pn : PK} {K : Value → WP} {a0 a1 a2 a3 a4 : Value} {w : World} (h : W.leatref10_readItems Pn K a0 a1 a2 a3 a4 w) : op PR Pn (S.fn F.leatref10_readItems [a0, a1, a2, a3, a4]) K w :=
  op_call (first := []) (cap := []) (args := [a0, a1, a2, a3, a4]) Go.Proofs.Try.func65 (by kernel_rfl) rfl (calls_of_denF (args := [a0, a1, a2, a3, a4]) (h := (.s none .n (.s none (.s none .n (.c (.s none .n .n) .n)) (.s none .n (.s none (.s none .n (.bl (.lp [3, 11, 12, 13, 14] (.s none (.s none .n (.c .n .n)) (.s none (.bl (.s none .n (.s none (.s none .n (.c (.s none .n .n) .n)) (.s none .n .n)))) .n))))) (.s none .n .n)))))) mixed Go.Proofs.Try.func65 rfl (by kernel_rfl) (Eq.mp (by kernel_rfl) h))
/-- leat/leatref04.Utf: function 66. -/
def W.leatref04_Utf (Pn : PK) (K : Value → WP) (a0 : Value) : WP :=
  L3 (.int .i64 0) (.bool false) (.int .i64 0) (fun x2 x3 x4 xk =>
    op PR Pn (S.bi .len #[23] 3 [false] [a0]) fun x8 =>
    op PR Pn (S.bin .lss 3 (.tmp 6) (.tmp 8) x4 x8) fun x9 =>
    ite' x9
    (op PR Pn (S.fn F.leatref04_Char [a0, x4]) fun x12 =>
      op PR Pn (S.bin .eql 3 (.tmp 13) (.const (.int .i64 0)) x12 (.int .i64 0)) fun x14 =>
      ite' x14
      (K (.tuple #[x4, (.bool false)]))
      (op PR Pn (S.bin .add 3 (.tmp 16) (.tmp 17) x4 x12) fun x18 =>
        xk x2 x3 x18))
    (K (.tuple #[x4, (.bool true)])))
theorem enter.leatref04_Utf {Pn : PK} {K : Value → WP} {a0 : Value} {w : World} (h : W.leatref04_Utf Pn K a0 w) : op PR Pn (S.fn F.leatref04_Utf [a0]) K w :=
  op_call (first := []) (cap := []) (args := [a0]) Go.Proofs.Try.func66 (by kernel_rfl) rfl (calls_of_denF (args := [a0]) (h := (.s none .n (.s none .n (.s none (.bl (.lp [2, 3, 4] (.s none (.s none .n (.c .n .n)) (.bl (.s none .n (.s none (.s none .n (.c (.s none .n .n) .n)) .n)))))) (.s none .n .n))))) mixed Go.Proofs.Try.func66 rfl (by kernel_rfl) (Eq.mp (by kernel_rfl) h))
/-- leat/schema.present: function 67. -/
def W.schema_present (Pn : PK) (K : Value → WP) (a0 a1 : Value) : WP :=
  op PR Pn (S.bi .len #[22] 3 [false] [a0]) fun x9 =>
  L2 (.slice none 0 0) (.int .i64 0) (fun x5 x10 xk =>
    op PR Pn (S.bin .lss 3 (.tmp 10) (.tmp 9) x10 x9) fun x11 =>
    ite' x11
    (J1 (fun x5_1 =>
        op PR Pn (S.bin .add 3 (.tmp 10) (.const (.int .i64 1)) x10 (.int .i64 1)) fun x21 =>
        xk x5_1 x21)
      (fun xk_1 =>
        op PR Pn (S.ia 22 a0 x10) fun x12 =>
        op PR Pn (S.load 60 x12) fun x13 =>
        op PR Pn (S.alloc 60) fun x7 =>
        op PR Pn (S.store 60 x7 x13) fun _ =>
        op PR Pn (S.load 60 x7) fun x14 =>
        op PR Pn (S.fn F.schema_here [x14, a1]) fun x16 =>
        ite' x16
        (op PR Pn (S.load 60 x7) fun x18 =>
          op PR Pn (S.bslice 22 1 [(0, x18)]) fun x19 =>
          op PR Pn (S.bi .append #[22, 22] 22 [false, false] [x5, x19]) fun x20 =>
          xk_1 x20)
        (xk_1 x5)))
    (K x5))
theorem enter.schema_present {Pn : PK} {K : Value → WP} {a0 a1 : Value} {w : World} (h : W.schema_present Pn K a0 a1 w) : op PR Pn (S.fn F.schema_present [a0, a1]) K w :=
  op_call (first := []) (cap := []) (args := [a0, a1]) Go.Proofs.Try.func67 (by kernel_rfl) rfl (calls_of_denF (args := [a0, a1]) (h := (.s none .n (.s none .n (.s none (.s none .n (.bl (.lp [5, 10] (.s none .n (.s none (.c .n .n) (.s (some [5]) (.bl (.s none .n (.s none .n (.c .n .n)))) .n)))))) (.s none .n .n))))) mixed Go.Proofs.Try.func67 rfl (by kernel_rfl) (Eq.mp (by kernel_rfl) h))
/-- leat/schema.compile: function 68. -/
def W.schema_compile (Pn : PK) (K : Value → WP) (a0 a1 : Value) : WP :=
  op PR Pn (S.box 60 a0) fun x2 =>
  op PR Pn (S.fa 60 x2 1) fun x5 =>
  op PR Pn (S.load 3 x5) fun x6 =>
  J1 (fun x7 =>
    ite' x7
    (op PR Pn (S.fa 60 x2 1) fun x10 =>
      op PR Pn (S.load 3 x10) fun x11 =>
      op PR Pn (S.build 114 [(0, x11)]) fun x12 =>
      op PR Pn (S.mkI 114 x12) fun x13 =>
      K x13)
    (J1 (fun x14 =>
        ite' x14
        (op PR Pn (S.fa 60 x2 1) fun x17 =>
          op PR Pn (S.load 3 x17) fun x18 =>
          op PR Pn (S.build 115 [(0, x18)]) fun x19 =>
          op PR Pn (S.mkI 115 x19) fun x20 =>
          K x20)
        (op PR Pn (S.bin .eql 3 (.tmp 6) (.const (.int .i64 9)) x6 (.int .i64 9)) fun x22 =>
          ite' x22
          (op PR Pn (S.fa 60 x2 4) fun x23 =>
            op PR Pn (S.load 22 x23) fun x24 =>
            op PR Pn (S.ia 22 x24 (.int .i64 0)) fun x25 =>
            op PR Pn (S.load 60 x25) fun x26 =>
            op PR Pn (S.fn F.schema_compile [x26, a1]) fun x28 =>
            op PR Pn (S.build 117 [(0, x28)]) fun x29 =>
            op PR Pn (S.mkI 117 x29) fun x30 =>
            K x30)
          (op PR Pn (S.bin .eql 3 (.tmp 6) (.const (.int .i64 10)) x6 (.int .i64 10)) fun x32 =>
            ite' x32
            (op PR Pn (S.fa 60 x2 4) fun x33 =>
              op PR Pn (S.load 22 x33) fun x34 =>
              op PR Pn (S.fn F.schema_whole [x34, a1]) fun x36 =>
              op PR Pn (S.mkI 66 x36) fun x37 =>
              K x37)
            (op PR Pn (S.fa 60 x2 1) fun x38 =>
              op PR Pn (S.load 3 x38) fun x39 =>
              op PR Pn (S.build 118 [(0, x39)]) fun x40 =>
              op PR Pn (S.mkI 118 x40) fun x41 =>
              K x41))))
      (fun xk =>
        op PR Pn (S.bin .eql 3 (.tmp 6) (.const (.int .i64 7)) x6 (.int .i64 7)) fun x15 =>
        ite' x15
        (xk x15)
        (op PR Pn (S.bin .eql 3 (.tmp 6) (.const (.int .i64 8)) x6 (.int .i64 8)) fun x16 =>
          xk x16))))
  (fun xk_1 =>
    op PR Pn (S.bin .eql 3 (.tmp 6) (.const (.int .i64 5)) x6 (.int .i64 5)) fun x8 =>
    ite' x8
    (xk_1 x8)
    (op PR Pn (S.bin .eql 3 (.tmp 6) (.const (.int .i64 6)) x6 (.int .i64 6)) fun x9 =>
      xk_1 x9))
theorem enter.schema_compile {Pn : PK} {K : Value → WP} {a0 a1 : Value} {w : World} (h : W.schema_compile Pn K a0 a1 w) : op PR Pn (S.fn F.schema_compile [a0, a1]) K w :=
  op_call (first := []) (cap := []) (args := [a0, a1]) Go.Proofs.Try.func68 (by kernel_rfl) rfl (calls_of_denF (args := [a0, a1]) (h := (.s none .n (.s none (.s none .n (.bl (.s (some [7]) (.s none .n (.c .n .n)) (.c (.s none .n .n) (.s (some [14]) (.s none .n (.c .n .n)) (.c (.s none .n .n) (.s none .n (.c (.s none .n .n) (.s none .n (.c (.s none .n .n) .n)))))))))) (.s none .n .n)))) mixed Go.Proofs.Try.func68 rfl (by kernel_rfl) (Eq.mp (by kernel_rfl) h))
/-- leat/leatref01.Fits: function 69. -/
def W.leatref01_Fits (Pn : PK) (K : Value → WP) (a0 a1 : Value) : WP :=
  op PR Pn (S.bin .geq 3 (.tmp 7) (.const (.int .i64 8)) a1 (.int .i64 8)) fun x8 =>
  ite' x8
  (K (.bool true))
  (L2 (.int .i64 1) (.int .i64 0) (fun x5 x6 xk =>
      op PR Pn (S.bin .mul 3 (.const (.int .i64 8)) (.tmp 10) (.int .i64 8) a1) fun x11 =>
      op PR Pn (S.bin .sub 3 (.tmp 11) (.const (.int .i64 1)) x11 (.int .i64 1)) fun x12 =>
      op PR Pn (S.bin .lss 3 (.tmp 9) (.tmp 12) x6 x12) fun x13 =>
      ite' x13
      (op PR Pn (S.bin .mul 2 (.tmp 16) (.const (.int .i64 2)) x5 (.int .i64 2)) fun x17 =>
        op PR Pn (S.bin .add 3 (.tmp 14) (.const (.int .i64 1)) x6 (.int .i64 1)) fun x15 =>
        xk x17 x15)
      (op PR Pn (S.un .neg x5) fun x20 =>
        op PR Pn (S.bin .geq 2 (.tmp 18) (.tmp 20) a0 x20) fun x21 =>
        gop PR Pn x21 true (S.mv a0) fun x23 =>
        gop PR Pn x21 true (S.mv x5) fun x24 =>
        gop PR Pn x21 true (S.bin .lss 2 (.tmp 23) (.tmp 24) x23 x24) fun x25 =>
        op PR Pn (S.pick x21 x25 (.bool false)) fun x26 =>
        K x26)))
theorem enter.leatref01_Fits {Pn : PK} {K : Value → WP} {a0 a1 : Value} {w : World} (h : W.leatref01_Fits Pn K a0 a1 w) : op PR Pn (S.fn F.leatref01_Fits [a0, a1]) K w :=
  op_call (first := []) (cap := []) (args := [a0, a1]) Go.Proofs.Try.func69 (by kernel_rfl) rfl (calls_of_denF (args := [a0, a1]) (h := (.s none .n (.s none (.s none .n (.c (.s none .n .n) .n)) (.s none .n (.s none (.s none .n (.bl (.lp [5, 6] (.s none (.s none .n (.c .n .n)) (.s none (.bl .n) .n))))) (.s none .n .n)))))) mixed Go.Proofs.Try.func69 rfl (by kernel_rfl) (Eq.mp (by kernel_rfl) h))
/-- leat/leatref01.Digits: function 70. -/
def W.leatref01_Digits (Pn : PK) (K : Value → WP) (a0 a1 : Value) : WP :=
  op PR Pn (S.bslice 23 0 []) fun x10 =>
  L3 a0 x10 (.int .i64 0) (fun x0 x5 x6 xk =>
    op PR Pn (S.bin .lss 3 (.tmp 11) (.tmp 12) x6 a1) fun x13 =>
    ite' x13
    (op PR Pn (S.bin .rem 2 (.tmp 16) (.const (.int .i64 256)) x0 (.int .i64 256)) fun x17 =>
      J1 (fun x7 =>
        op PR Pn (S.conv 2 5 x7) fun x24 =>
        op PR Pn (S.bslice 23 1 [(0, x24)]) fun x25 =>
        op PR Pn (S.bi .append #[23, 23] 23 [false, false] [x5, x25]) fun x26 =>
        op PR Pn (S.bin .sub 2 (.tmp 27) (.tmp 28) x0 x7) fun x29 =>
        op PR Pn (S.bin .quo 2 (.tmp 29) (.const (.int .i64 256)) x29 (.int .i64 256)) fun x30 =>
        op PR Pn (S.bin .add 3 (.tmp 14) (.const (.int .i64 1)) x6 (.int .i64 1)) fun x15 =>
        xk x30 x26 x15)
      (fun xk_1 =>
        op PR Pn (S.bin .lss 2 (.tmp 18) (.const (.int .i64 0)) x17 (.int .i64 0)) fun x19 =>
        ite' x19
        (op PR Pn (S.bin .add 2 (.tmp 20) (.const (.int .i64 256)) x17 (.int .i64 256)) fun x21 =>
          xk_1 x21)
        (xk_1 x17)))
    (op PR Pn (S.bslice 23 0 []) fun x31 =>
      op PR Pn (S.bin .sub 3 (.tmp 32) (.const (.int .i64 1)) a1 (.int .i64 1)) fun x33 =>
      L2 x31 x33 (fun x8 x9 xk_2 =>
        op PR Pn (S.bin .geq 3 (.tmp 34) (.const (.int .i64 0)) x9 (.int .i64 0)) fun x35 =>
        ite' x35
        (op PR Pn (S.ia 23 x5 x9) fun x41 =>
          op PR Pn (S.load 5 x41) fun x42 =>
          op PR Pn (S.bslice 23 1 [(0, x42)]) fun x43 =>
          op PR Pn (S.bi .append #[23, 23] 23 [false, false] [x8, x43]) fun x44 =>
          op PR Pn (S.bin .sub 3 (.tmp 36) (.const (.int .i64 1)) x9 (.int .i64 1)) fun x37 =>
          xk_2 x44 x37)
        (K x8))))
theorem enter.leatref01_Digits {Pn : PK} {K : Value → WP} {a0 a1 : Value} {w : World} (h : W.leatref01_Digits Pn K a0 a1 w) : op PR Pn (S.fn F.leatref01_Digits [a0, a1]) K w :=
  op_call (first := []) (cap := []) (args := [a0, a1]) Go.Proofs.Try.func70 (by kernel_rfl) rfl (calls_of_denF (args := [a0, a1]) (h := (.s none .n (.s none .n (.s none (.s none .n (.bl (.lp [0, 5, 6] (.s none (.s none .n (.c .n .n)) (.s none (.bl (.s none .n (.s (some [7]) (.s none .n (.c .n .n)) (.s none .n .n)))) .n))))) (.s none .n (.s none (.s none .n (.bl (.lp [8, 9] (.s none (.s none .n (.c .n .n)) (.s none (.bl .n) .n))))) (.s none .n .n))))))) mixed Go.Proofs.Try.func70 rfl (by kernel_rfl) (Eq.mp (by kernel_rfl) h))
/-- leat/leatref10.field: function 71. -/
def W.leatref10_field (Pn : PK) (K : Value → WP) (a0 a1 : Value) : WP :=
  op PR Pn (S.box 60 a0) fun x2 =>
  op PR Pn (S.fa 60 x2 0) fun x6 =>
  op PR Pn (S.load 9 x6) fun x7 =>
  op PR Pn (S.bi .len #[9] 3 [false] [x7]) fun x8 =>
  op PR Pn (S.bin .eql 3 (.tmp 8) (.const (.int .i64 0)) x8 (.int .i64 0)) fun x9 =>
  gop PR Pn x9 false (S.fa 60 x2 2) fun x11 =>
  gop PR Pn x9 false (S.load 3 x11) fun x12 =>
  gop PR Pn x9 false (S.bin .lss 3 (.tmp 12) (.const (.int .i64 0)) x12 (.int .i64 0)) fun x13 =>
  op PR Pn (S.pick x9 (.bool true) x13) fun x14 =>
  gop PR Pn x14 false (S.fa 60 x2 3) fun x16 =>
  gop PR Pn x14 false (S.load 3 x16) fun x17 =>
  gop PR Pn x14 false (S.bin .gtr 3 (.tmp 17) (.const (.int .i64 3)) x17 (.int .i64 3)) fun x18 =>
  op PR Pn (S.pick x14 (.bool true) x18) fun x19 =>
  gop PR Pn x19 false (S.fa 60 x2 2) fun x21 =>
  gop PR Pn x19 false (S.load 3 x21) fun x22 =>
  gop PR Pn x19 false (S.fa 60 x2 3) fun x23 =>
  gop PR Pn x19 false (S.load 3 x23) fun x24 =>
  gop PR Pn x19 false (S.bin .gtr 3 (.tmp 22) (.tmp 24) x22 x24) fun x25 =>
  op PR Pn (S.pick x19 (.bool true) x25) fun x26 =>
  gop PR Pn x26 false (S.fa 60 x2 1) fun x28 =>
  gop PR Pn x26 false (S.load 3 x28) fun x29 =>
  gop PR Pn x26 false (S.bin .lss 3 (.tmp 29) (.const (.int .i64 1)) x29 (.int .i64 1)) fun x30 =>
  op PR Pn (S.pick x26 (.bool true) x30) fun x31 =>
  gop PR Pn x31 false (S.fa 60 x2 1) fun x33 =>
  gop PR Pn x31 false (S.load 3 x33) fun x34 =>
  gop PR Pn x31 false (S.bin .gtr 3 (.tmp 34) (.const (.int .i64 10)) x34 (.int .i64 10)) fun x35 =>
  op PR Pn (S.pick x31 (.bool true) x35) fun x36 =>
  ite' x36
  (K (.bool false))
  (op PR Pn (S.fa 60 x2 1) fun x37 =>
    op PR Pn (S.load 3 x37) fun x38 =>
    op PR Pn (S.bin .lss 3 (.tmp 38) (.const (.int .i64 9)) x38 (.int .i64 9)) fun x39 =>
    ite' x39
    (op PR Pn (S.fa 60 x2 4) fun x40 =>
      op PR Pn (S.load 22 x40) fun x41 =>
      op PR Pn (S.bi .len #[22] 3 [false] [x41]) fun x42 =>
      op PR Pn (S.bin .eql 3 (.tmp 42) (.const (.int .i64 0)) x42 (.int .i64 0)) fun x43 =>
      K x43)
    (op PR Pn (S.fa 60 x2 4) fun x44 =>
      op PR Pn (S.load 22 x44) fun x45 =>
      op PR Pn (S.bin .add 3 (.tmp 46) (.const (.int .i64 1)) a1 (.int .i64 1)) fun x47 =>
      op PR Pn (S.fn F.leatref10_list [x45, x47]) fun x48 =>
      op PR Pn (S.un .not x48) fun x49 =>
      ite' x49
      (K (.bool false))
      (op PR Pn (S.fa 60 x2 2) fun x50 =>
        op PR Pn (S.load 3 x50) fun x51 =>
        L2 (.bool false) x51 (fun x4 x5 xk =>
          op PR Pn (S.fa 60 x2 3) fun x53 =>
          op PR Pn (S.load 3 x53) fun x54 =>
          op PR Pn (S.bin .leq 3 (.tmp 52) (.tmp 54) x5 x54) fun x55 =>
          ite' x55
          (op PR Pn (S.fa 60 x2 4) fun x58 =>
            op PR Pn (S.load 22 x58) fun x59 =>
            op PR Pn (S.fn F.leatref10_Here [x59, x5]) fun x61 =>
            op PR Pn (S.bi .len #[22] 3 [false] [x61]) fun x62 =>
            op PR Pn (S.bin .eql 3 (.tmp 62) (.const (.int .i64 0)) x62 (.int .i64 0)) fun x63 =>
            ite' x63
            (K (.bool false))
            (op PR Pn (S.bin .add 3 (.tmp 56) (.const (.int .i64 1)) x5 (.int .i64 1)) fun x57 =>
              xk x4 x57))
          (op PR Pn (S.fa 60 x2 1) fun x64 =>
            op PR Pn (S.load 3 x64) fun x65 =>
            op PR Pn (S.bin .eql 3 (.tmp 65) (.const (.int .i64 10)) x65 (.int .i64 10)) fun x66 =>
            gop PR Pn x66 false (S.fa 60 x2 4) fun x68 =>
            gop PR Pn x66 false (S.load 22 x68) fun x69 =>
            gop PR Pn x66 false (S.bi .len #[22] 3 [false] [x69]) fun x70 =>
            gop PR Pn x66 false (S.bin .eql 3 (.tmp 70) (.const (.int .i64 1)) x70 (.int .i64 1)) fun x71 =>
            op PR Pn (S.pick x66 (.bool true) x71) fun x72 =>
            K x72)))))
theorem enter.leatref10_field {Pn : PK} {K : Value → WP} {a0 a1 : Value} {w : World} (h : W.leatref10_field Pn K a0 a1 w) : op PR Pn (S.fn F.leatref10_field [a0, a1]) K w :=
  op_call (first := []) (cap := []) (args := [a0, a1]) Go.Proofs.Try.func71 (by kernel_rfl) rfl (calls_of_denF (args := [a0, a1]) (h := (.s none .n (.s none (.s none .n (.c (.s none .n .n) .n)) (.s none (.s none .n (.c (.s none .n .n) .n)) (.s none (.s none .n (.c (.s none .n .n) .n)) (.s none (.s none .n (.bl (.lp [4, 5] (.s none (.s none .n (.c .n .n)) (.s none (.bl (.s none .n (.c (.s none .n .n) .n))) .n))))) (.s none .n .n))))))) mixed Go.Proofs.Try.func71 rfl (by kernel_rfl) (Eq.mp (by kernel_rfl) h))
/-- leat/leatref04.Char: function 72. -/
def W.leatref04_Char (Pn : PK) (K : Value → WP) (a0 a1 : Value) : WP :=
  op PR Pn (S.bin .lss 3 (.tmp 8) (.const (.int .i64 0)) a1 (.int .i64 0)) fun x9 =>
  gop PR Pn x9 false (S.mv a1) fun x11 =>
  gop PR Pn x9 false (S.mv a0) fun x12 =>
  gop PR Pn x9 false (S.bi .len #[23] 3 [false] [x12]) fun x13 =>
  gop PR Pn x9 false (S.bin .geq 3 (.tmp 11) (.tmp 13) x11 x13) fun x14 =>
  op PR Pn (S.pick x9 (.bool true) x14) fun x15 =>
  ite' x15
  (K (.int .i64 0))
  (op PR Pn (S.ia 23 a0 a1) fun x18 =>
    op PR Pn (S.load 5 x18) fun x19 =>
    op PR Pn (S.bin .lss 5 (.tmp 20) (.const (.int .u8 128)) x19 (.int .u8 128)) fun x21 =>
    ite' x21
    (K (.int .i64 1))
    (J1 (fun x6 =>
        J1 (fun x7 =>
          J1 (fun x6_1 =>
            J1 (fun x7_1 =>
              op PR Pn (S.bin .lss 5 (.tmp 30) (.const (.int .u8 194)) x19 (.int .u8 194)) fun x31 =>
              gop PR Pn x31 false (S.mv x19) fun x33 =>
              gop PR Pn x31 false (S.bin .gtr 5 (.tmp 33) (.const (.int .u8 244)) x33 (.int .u8 244)) fun x34 =>
              op PR Pn (S.pick x31 (.bool true) x34) fun x35 =>
              gop PR Pn x35 false (S.mv a0) fun x37 =>
              gop PR Pn x35 false (S.mv a1) fun x38 =>
              gop PR Pn x35 false (S.bin .add 3 (.tmp 38) (.const (.int .i64 1)) x38 (.int .i64 1)) fun x39 =>
              gop PR Pn x35 false (S.mv x6_1) fun x40 =>
              gop PR Pn x35 false (S.mv x7_1) fun x41 =>
              gop PR Pn x35 false (S.fn F.leatref04_within [x37, x39, x40, x41]) fun x42 =>
              gop PR Pn x35 false (S.un .not x42) fun x43 =>
              op PR Pn (S.pick x35 (.bool true) x43) fun x44 =>
              ite' x44
              (K (.int .i64 0))
              (op PR Pn (S.bin .lss 5 (.tmp 45) (.const (.int .u8 224)) x19 (.int .u8 224)) fun x46 =>
                ite' x46
                (K (.int .i64 2))
                (op PR Pn (S.bin .add 3 (.tmp 48) (.const (.int .i64 2)) a1 (.int .i64 2)) fun x49 =>
                  op PR Pn (S.fn F.leatref04_within [a0, x49, (.int .u8 128), (.int .u8 191)]) fun x50 =>
                  op PR Pn (S.un .not x50) fun x51 =>
                  ite' x51
                  (K (.int .i64 0))
                  (op PR Pn (S.bin .lss 5 (.tmp 52) (.const (.int .u8 240)) x19 (.int .u8 240)) fun x53 =>
                    ite' x53
                    (K (.int .i64 3))
                    (op PR Pn (S.bin .add 3 (.tmp 55) (.const (.int .i64 3)) a1 (.int .i64 3)) fun x56 =>
                      op PR Pn (S.fn F.leatref04_within [a0, x56, (.int .u8 128), (.int .u8 191)]) fun x57 =>
                      op PR Pn (S.un .not x57) fun x58 =>
                      ite' x58
                      (K (.int .i64 0))
                      (K (.int .i64 4)))))))
            (fun xk =>
              op PR Pn (S.bin .eql 5 (.tmp 28) (.const (.int .u8 244)) x19 (.int .u8 244)) fun x29 =>
              ite' x29
              (xk (.int .u8 143))
              (xk x7)))
          (fun xk_1 =>
            op PR Pn (S.bin .eql 5 (.tmp 26) (.const (.int .u8 240)) x19 (.int .u8 240)) fun x27 =>
            ite' x27
            (xk_1 (.int .u8 144))
            (xk_1 x6)))
        (fun xk_2 =>
          op PR Pn (S.bin .eql 5 (.tmp 24) (.const (.int .u8 237)) x19 (.int .u8 237)) fun x25 =>
          ite' x25
          (xk_2 (.int .u8 159))
          (xk_2 (.int .u8 191))))
      (fun xk_3 =>
        op PR Pn (S.bin .eql 5 (.tmp 22) (.const (.int .u8 224)) x19 (.int .u8 224)) fun x23 =>
        ite' x23
        (xk_3 (.int .u8 160))
        (xk_3 (.int .u8 128)))))
theorem enter.leatref04_Char {Pn : PK} {K : Value → WP} {a0 a1 : Value} {w : World} (h : W.leatref04_Char Pn K a0 a1 w) : op PR Pn (S.fn F.leatref04_Char [a0, a1]) K w :=
  op_call (first := []) (cap := []) (args := [a0, a1]) Go.Proofs.Try.func72 (by kernel_rfl) rfl (calls_of_denF (args := [a0, a1]) (h := (.s none .n (.s none (.s none .n (.c (.s none .n .n) .n)) (.s none .n (.s none .n (.s none (.s none .n (.c (.s none .n .n) .n)) (.s (some [6]) (.s none .n (.c .n .n)) (.s (some [7]) (.s none .n (.c .n .n)) (.s (some [6]) (.s none .n (.c .n .n)) (.s (some [7]) (.s none .n (.c .n .n)) (.s none (.s none .n (.c (.s none .n .n) .n)) (.s none (.s none .n (.c (.s none .n .n) .n)) (.s none (.s none .n (.c (.s none .n .n) .n)) (.s none (.s none .n (.c (.s none .n .n) .n)) (.s none (.s none .n (.c (.s none .n .n) .n)) (.s none .n .n)))))))))))))))) mixed Go.Proofs.Try.func72 rfl (by kernel_rfl) (Eq.mp (by kernel_rfl) h))
/-- leat/schema.here: function 73. -/
def W.schema_here (Pn : PK) (K : Value → WP) (a0 a1 : Value) : WP :=
  op PR Pn (S.box 60 a0) fun x2 =>
  op PR Pn (S.fa 60 x2 2) fun x5 =>
  op PR Pn (S.load 3 x5) fun x6 =>
  op PR Pn (S.bin .leq 3 (.tmp 6) (.tmp 7) x6 a1) fun x8 =>
  gop PR Pn x8 true (S.mv a1) fun x10 =>
  gop PR Pn x8 true (S.fa 60 x2 3) fun x11 =>
  gop PR Pn x8 true (S.load 3 x11) fun x12 =>
  gop PR Pn x8 true (S.bin .leq 3 (.tmp 10) (.tmp 12) x10 x12) fun x13 =>
  op PR Pn (S.pick x8 x13 (.bool false)) fun x14 =>
  K x14
theorem enter.schema_here {Pn : PK} {K : Value → WP} {a0 a1 : Value} {w : World} (h : W.schema_here Pn K a0 a1 w) : op PR Pn (S.fn F.schema_here [a0, a1]) K w :=
  op_call (first := []) (cap := []) (args := [a0, a1]) Go.Proofs.Try.func73 (by kernel_rfl) rfl (calls_of_denF (args := [a0, a1]) (h := (.s none .n (.s none .n .n))) mixed Go.Proofs.Try.func73 rfl (by kernel_rfl) (Eq.mp (by kernel_rfl) h))
/-- leat/leatref04.within: function 74. -/
def W.leatref04_within (Pn : PK) (K : Value → WP) (a0 a1 a2 a3 : Value) : WP :=
  op PR Pn (S.bi .len #[23] 3 [false] [a0]) fun x11 =>
  op PR Pn (S.bin .lss 3 (.tmp 9) (.tmp 11) a1 x11) fun x12 =>
  gop PR Pn x12 true (S.mv a0) fun x14 =>
  gop PR Pn x12 true (S.mv a1) fun x15 =>
  gop PR Pn x12 true (S.ia 23 x14 x15) fun x16 =>
  gop PR Pn x12 true (S.load 5 x16) fun x17 =>
  gop PR Pn x12 true (S.mv a2) fun x18 =>
  gop PR Pn x12 true (S.bin .geq 5 (.tmp 17) (.tmp 18) x17 x18) fun x19 =>
  op PR Pn (S.pick x12 x19 (.bool false)) fun x20 =>
  gop PR Pn x20 true (S.mv a0) fun x22 =>
  gop PR Pn x20 true (S.mv a1) fun x23 =>
  gop PR Pn x20 true (S.ia 23 x22 x23) fun x24 =>
  gop PR Pn x20 true (S.load 5 x24) fun x25 =>
  gop PR Pn x20 true (S.mv a3) fun x26 =>
  gop PR Pn x20 true (S.bin .leq 5 (.tmp 25) (.tmp 26) x25 x26) fun x27 =>
  op PR Pn (S.pick x20 x27 (.bool false)) fun x28 =>
  K x28
theorem enter.leatref04_within {Pn : PK} {K : Value → WP} {a0 a1 a2 a3 : Value} {w : World} (h : W.leatref04_within Pn K a0 a1 a2 a3 w) : op PR Pn (S.fn F.leatref04_within [a0, a1, a2, a3]) K w :=
  op_call (first := []) (cap := []) (args := [a0, a1, a2, a3]) Go.Proofs.Try.func74 (by kernel_rfl) rfl (calls_of_denF (args := [a0, a1, a2, a3]) (h := (.s none .n (.s none .n .n))) mixed Go.Proofs.Try.func74 rfl (by kernel_rfl) (Eq.mp (by kernel_rfl) h))
/-- (leat/schema.text).check: function 93. -/
def W.schema_text_check (Pn : PK) (K : Value → WP) (a0 a1 : Value) : WP :=
  op PR Pn (S.box 114 a0) fun x2 =>
  op PR Pn (S.box 29 a1) fun x3 =>
  op PR Pn (S.load 29 x3) fun x7 =>
  op PR Pn (S.fa 114 x2 0) fun x8 =>
  op PR Pn (S.load 3 x8) fun x9 =>
  op PR Pn (S.fa 114 x2 0) fun x10 =>
  op PR Pn (S.load 3 x10) fun x11 =>
  op PR Pn (S.bin .eql 3 (.tmp 11) (.const (.int .i64 6)) x11 (.int .i64 6)) fun x12 =>
  op PR Pn (S.fn F.schema_plain [x7, x9, (.bool false), (.bool true), x12, (.bool false)]) fun x13 =>
  op PR Pn (S.un .not x13) fun x14 =>
  ite' x14
  (K (.int .i64 101))
  (op PR Pn (S.fa 29 x3 2) fun x15 =>
    op PR Pn (S.load 4 x15) fun x16 =>
    gop PR Pn x16 true (S.fa 29 x3 3) fun x18 =>
    gop PR Pn x16 true (S.load 23 x18) fun x19 =>
    gop PR Pn x16 true (S.bi .len #[23] 3 [false] [x19]) fun x20 =>
    gop PR Pn x16 true (S.bin .gtr 3 (.tmp 20) (.const (.int .i64 0)) x20 (.int .i64 0)) fun x21 =>
    op PR Pn (S.pick x16 x21 (.bool false)) fun x22 =>
    ite' x22
    (K (.int .i64 70))
    (op PR Pn (S.fa 29 x3 3) fun x24 =>
      op PR Pn (S.load 23 x24) fun x25 =>
      op PR Pn (S.fn F.label_Utf [x25]) fun x26 =>
      op PR Pn (S.ext x26 0) fun x27 =>
      op PR Pn (S.ext x26 1) fun x28 =>
      op PR Pn (S.un .not x28) fun x30 =>
      ite' x30
      (K (.int .i64 6))
      (op PR Pn (S.fa 29 x3 3) fun x31 =>
        op PR Pn (S.load 23 x31) fun x32 =>
        op PR Pn (S.bi .len #[23] 3 [false] [x32]) fun x33 =>
        op PR Pn (S.bin .gtr 3 (.tmp 33) (.const (.int .i64 255)) x33 (.int .i64 255)) fun x34 =>
        ite' x34
        (K (.int .i64 4))
        (K (.int .i64 0)))))
theorem enter.schema_text_check {Pn : PK} {K : Value → WP} {a0 a1 : Value} {w : World} (h : W.schema_text_check Pn K a0 a1 w) : op PR Pn (S.fn F.schema_text_check [a0, a1]) K w :=
  op_call (first := []) (cap := []) (args := [a0, a1]) Go.Proofs.Try.func93 (by kernel_rfl) rfl (calls_of_denF (args := [a0, a1]) (h := (.s none .n (.s none (.s none .n (.c (.s none .n .n) .n)) (.s none (.s none .n (.c (.s none .n .n) .n)) (.s none (.s none .n (.s none .n (.c (.s none .n .n) .n))) (.s none (.s none .n (.c (.s none .n .n) .n)) (.s none .n .n))))))) mixed Go.Proofs.Try.func93 rfl (by kernel_rfl) (Eq.mp (by kernel_rfl) h))
/-- (leat/schema.text).get: function 94. -/
def W.schema_text_get (Pn : PK) (K : Value → WP) (a0 a1 : Value) : WP :=
  op PR Pn (S.box 114 a0) fun x2 =>
  op PR Pn (S.alloc 29) fun x4 =>
  op PR Pn (S.fn F.cursor_Reader_I16 [a1]) fun x13 =>
  op PR Pn (S.ext x13 0) fun x14 =>
  op PR Pn (S.ext x13 1) fun x15 =>
  op PR Pn (S.bin .neq 32 (.tmp 17) (.const (.int .i64 0)) x15 (.int .i64 0)) fun x18 =>
  ite' x18
  (op PR Pn (S.build 29 []) fun x19 =>
    op PR Pn (S.store 29 x4 x19) fun _ =>
    ldR PR 29 x4 fun xr => K (.tuple #[xr, x15]))
  (op PR Pn (S.bin .eql 50 (.tmp 22) (.const (.int .i16 (-1))) x14 (.int .i16 (-1))) fun x23 =>
    gop PR Pn x23 true (S.fa 114 x2 0) fun x25 =>
    gop PR Pn x23 true (S.load 3 x25) fun x26 =>
    gop PR Pn x23 true (S.bin .eql 3 (.tmp 26) (.const (.int .i64 6)) x26 (.int .i64 6)) fun x27 =>
    op PR Pn (S.pick x23 x27 (.bool false)) fun x28 =>
    ite' x28
    (op PR Pn (S.fa 114 x2 0) fun x29 =>
      op PR Pn (S.load 3 x29) fun x30 =>
      op PR Pn (S.build 29 [(0, x30), (2, (.bool true))]) fun x31 =>
      op PR Pn (S.store 29 x4 x31) fun _ =>
      ldR PR 29 x4 fun xr_1 => K (.tuple #[xr_1, (.int .i64 0)]))
    (op PR Pn (S.bin .lss 50 (.tmp 33) (.const (.int .i16 0)) x14 (.int .i16 0)) fun x34 =>
      ite' x34
      (op PR Pn (S.build 29 []) fun x35 =>
        op PR Pn (S.store 29 x4 x35) fun _ =>
        ldR PR 29 x4 fun xr_2 => K (.tuple #[xr_2, (.int .i64 5)]))
      (op PR Pn (S.bin .gtr 50 (.tmp 37) (.const (.int .i16 255)) x14 (.int .i16 255)) fun x38 =>
        ite' x38
        (op PR Pn (S.build 29 []) fun x39 =>
          op PR Pn (S.store 29 x4 x39) fun _ =>
          ldR PR 29 x4 fun xr_3 => K (.tuple #[xr_3, (.int .i64 4)]))
        (op PR Pn (S.conv 50 3 x14) fun x43 =>
          op PR Pn (S.fn F.cursor_Reader_Take [a1, x43]) fun x44 =>
          op PR Pn (S.ext x44 0) fun x45 =>
          op PR Pn (S.ext x44 1) fun x46 =>
          op PR Pn (S.bin .neq 32 (.tmp 47) (.const (.int .i64 0)) x46 (.int .i64 0)) fun x48 =>
          ite' x48
          (op PR Pn (S.build 29 []) fun x49 =>
            op PR Pn (S.store 29 x4 x49) fun _ =>
            ldR PR 29 x4 fun xr_4 => K (.tuple #[xr_4, x46]))
          (op PR Pn (S.fn F.label_Utf [x45]) fun x53 =>
            op PR Pn (S.ext x53 0) fun x54 =>
            op PR Pn (S.ext x53 1) fun x55 =>
            op PR Pn (S.un .not x55) fun x57 =>
            ite' x57
            (op PR Pn (S.build 29 []) fun x58 =>
              op PR Pn (S.store 29 x4 x58) fun _ =>
              ldR PR 29 x4 fun xr_5 => K (.tuple #[xr_5, (.int .i64 6)]))
            (op PR Pn (S.fa 114 x2 0) fun x59 =>
              op PR Pn (S.load 3 x59) fun x60 =>
              op PR Pn (S.build 29 [(0, x60), (3, x45)]) fun x62 =>
              op PR Pn (S.store 29 x4 x62) fun _ =>
              ldR PR 29 x4 fun xr_6 => K (.tuple #[xr_6, (.int .i64 0)])))))))
theorem enter.schema_text_get {Pn : PK} {K : Value → WP} {a0 a1 : Value} {w : World} (h : W.schema_text_get Pn K a0 a1 w) : op PR Pn (S.fn F.schema_text_get [a0, a1]) K w :=
  op_call (first := []) (cap := []) (args := [a0, a1]) Go.Proofs.Try.func94 (by kernel_rfl) rfl (calls_of_denF (args := [a0, a1]) (h := (.s none .n (.s none .n (.s none (.bl (.s none .n (.c (.s none .n .n) (.s none .n (.c (.s none .n .n) (.s none .n (.c (.s none .n .n) (.s none .n (.c (.s none .n .n) .n))))))))) (.s none .n (.s none (.s none .n (.c (.s none .n .n) .n)) (.s none (.s none .n (.s none .n (.c (.s none .n .n) .n))) (.s none .n .n)))))))) mixed Go.Proofs.Try.func94 rfl (by kernel_rfl) (Eq.mp (by kernel_rfl) h))
/-- (leat/schema.text).put: function 95. -/
def W.schema_text_put (Pn : PK) (K : Value → WP) (a0 a1 a2 : Value) : WP :=
  op PR Pn (S.box 114 a0) fun x3 =>
  op PR Pn (S.box 29 a2) fun x5 =>
  op PR Pn (S.fa 29 x5 2) fun x8 =>
  op PR Pn (S.load 4 x8) fun x9 =>
  ite' x9
  (op PR Pn (S.fn F.cursor_Writer_I16 [a1, (.int .i16 (-1))]) fun x11 =>
    K x11)
  (op PR Pn (S.fa 29 x5 3) fun x13 =>
    op PR Pn (S.load 23 x13) fun x14 =>
    op PR Pn (S.bi .len #[23] 3 [false] [x14]) fun x15 =>
    op PR Pn (S.conv 3 50 x15) fun x16 =>
    op PR Pn (S.fn F.cursor_Writer_I16 [a1, x16]) fun x17 =>
    op PR Pn (S.bin .neq 32 (.tmp 18) (.const (.int .i64 0)) x17 (.int .i64 0)) fun x19 =>
    ite' x19
    (K x17)
    (op PR Pn (S.fa 29 x5 3) fun x22 =>
      op PR Pn (S.load 23 x22) fun x23 =>
      op PR Pn (S.bslice 39 1 [(0, x23)]) fun x24 =>
      op PR Pn (S.fn F.cursor_Writer_Raw [a1, x24]) fun x25 =>
      K x25))
theorem enter.schema_text_put {Pn : PK} {K : Value → WP} {a0 a1 a2 : Value} {w : World} (h : W.schema_text_put Pn K a0 a1 a2 w) : op PR Pn (S.fn F.schema_text_put [a0, a1, a2]) K w :=
  op_call (first := []) (cap := []) (args := [a0, a1, a2]) Go.Proofs.Try.func95 (by kernel_rfl) rfl (calls_of_denF (args := [a0, a1, a2]) (h := (.s none .n (.s none (.s none .n (.c (.s none .n .n) .n)) (.s none (.s none .n (.s none .n (.c (.s none .n .n) .n))) (.s none .n .n))))) mixed Go.Proofs.Try.func95 rfl (by kernel_rfl) (Eq.mp (by kernel_rfl) h))
/-- leat/label.Utf: function 96. -/
def W.label_Utf (Pn : PK) (K : Value → WP) (a0 : Value) : WP :=
  op PR Pn (S.conv 23 9 a0) fun x8 =>
  op PR Pn (S.rng 9 x8) fun x10 =>
  L2 (.int .i64 0) (.bool false) (fun x2 x3 xk =>
    op PR Pn (S.nxt x10 true 0) fun x11 =>
    op PR Pn (S.ext x11 0) fun x12 =>
    ite' x12
    (op PR Pn (S.ext x11 1) fun x13 =>
      op PR Pn (S.ext x11 2) fun x14 =>
      op PR Pn (S.bin .eql 21 (.tmp 15) (.const (.int .i32 65533)) x14 (.int .i32 65533)) fun x16 =>
      gop PR Pn x16 true (S.mv x8) fun x18 =>
      gop PR Pn x16 true (S.mv x13) fun x19 =>
      gop PR Pn x16 true (S.sl 9 x18 (some x19) none none) fun x20 =>
      gop PR Pn x16 true (S.fn F.strings_HasPrefix [x20, (.string { data := #[239, 191, 189] })]) fun x21 =>
      gop PR Pn x16 true (S.un .not x21) fun x22 =>
      op PR Pn (S.pick x16 x22 (.bool false)) fun x23 =>
      ite' x23
      (K (.tuple #[x13, (.bool false)]))
      (xk x2 x3))
    (op PR Pn (S.bi .len #[23] 3 [false] [a0]) fun x26 =>
      K (.tuple #[x26, (.bool true)])))
theorem enter.label_Utf {Pn : PK} {K : Value → WP} {a0 : Value} {w : World} (h : W.label_Utf Pn K a0 w) : op PR Pn (S.fn F.label_Utf [a0]) K w :=
  op_call (first := []) (cap := []) (args := [a0]) Go.Proofs.Try.func96 (by kernel_rfl) rfl (calls_of_denF (args := [a0]) (h := (.s none .n (.s none .n (.s none (.s none .n (.bl (.lp [2, 3] (.s none .n (.s none (.c .n .n) (.bl (.s none .n (.s none .n (.c (.s none .n .n) .n))))))))) (.s none .n .n))))) mixed Go.Proofs.Try.func96 rfl (by kernel_rfl) (Eq.mp (by kernel_rfl) h))
/-- (*leat/cursor.Reader).I16: function 97. -/
def W.cursor_Reader_I16 (Pn : PK) (K : Value → WP) (a0 : Value) : WP :=
  op PR Pn (S.fn F.cursor_Reader_number [a0, (.int .i64 2)]) fun x8 =>
  op PR Pn (S.ext x8 0) fun x9 =>
  op PR Pn (S.ext x8 1) fun x10 =>
  op PR Pn (S.conv 142 50 x9) fun x12 =>
  K (.tuple #[x12, x10])
theorem enter.cursor_Reader_I16 {Pn : PK} {K : Value → WP} {a0 : Value} {w : World} (h : W.cursor_Reader_I16 Pn K a0 w) : op PR Pn (S.fn F.cursor_Reader_I16 [a0]) K w :=
  op_call (first := []) (cap := []) (args := [a0]) Go.Proofs.Try.func97 (by kernel_rfl) rfl (calls_of_denF (args := [a0]) (h := (.s none .n (.s none .n (.s none .n .n)))) mixed Go.Proofs.Try.func97 rfl (by kernel_rfl) (Eq.mp (by kernel_rfl) h))
/-- (*leat/cursor.Reader).Take: function 98. -/
def W.cursor_Reader_Take (Pn : PK) (K : Value → WP) (a0 a1 : Value) : WP :=
  op PR Pn (S.nilc a0) fun x9 =>
  op PR Pn (S.fa 91 x9 1) fun x10 =>
  op PR Pn (S.load 3 x10) fun x11 =>
  op PR Pn (S.fn F.cursor_Reader_Skip [a0, a1]) fun x14 =>
  op PR Pn (S.bin .neq 32 (.tmp 15) (.const (.int .i64 0)) x14 (.int .i64 0)) fun x16 =>
  ite' x16
  (K (.tuple #[(.slice none 0 0), x14]))
  (drawn <|
    lt PR (S.mv a0) fun x18 =>
    lt PR (S.nilc x18) fun x19 =>
    lt PR (S.fa 91 x19 0) fun x20 =>
    lt PR (S.load 23 x20) fun x21 =>
    lt PR (S.mv x11) fun x22 =>
    lt PR (S.mv a0) fun x23 =>
    lt PR (S.nilc x23) fun x24 =>
    lt PR (S.fa 91 x24 1) fun x25 =>
    lt PR (S.load 3 x25) fun x26 =>
    lt PR (S.sl 23 x21 (some x22) (some x26) none) fun x27 =>
    op PR Pn (S.fn F.bytes_Clone [x27]) fun x28 =>
    lt PR (S.mv x28) fun x4 =>
    lt PR (S.mv (.int .i64 0)) fun x5 =>
    K (.tuple #[x4, x5]))
theorem enter.cursor_Reader_Take {Pn : PK} {K : Value → WP} {a0 a1 : Value} {w : World} (h : W.cursor_Reader_Take Pn K a0 a1 w) : op PR Pn (S.fn F.cursor_Reader_Take [a0, a1]) K w :=
  op_call (first := []) (cap := []) (args := [a0, a1]) Go.Proofs.Try.func98 (by kernel_rfl) rfl (calls_of_denF (args := [a0, a1]) (h := (.s none .n (.s none .n (.s none (.s none .n (.s none .n (.c (.s none .n .n) .n))) (.s none (.rg (.ev [0, 1, 2, 3, 4, 5, 6, 7, 8, 9] [] (.hv 10 (.ev [11, 12] [] .fin))) [[], [0], [0, 1], [0, 1, 2], [], [], [5], [5, 6], [5, 6, 7], [0, 1, 2, 3, 4, 5, 6, 7, 8], [0, 1, 2, 3, 4, 5, 6, 7, 8, 9], [0, 1, 2, 3, 4, 5, 6, 7, 8, 9, 10], [0, 1, 2, 3, 4, 5, 6, 7, 8, 9, 10, 11]]) .n))))) mixed Go.Proofs.Try.func98 rfl (by kernel_rfl) (Eq.mp (by kernel_rfl) h))
/-- (*leat/cursor.Writer).I16: function 99. -/
def W.cursor_Writer_I16 (Pn : PK) (K : Value → WP) (a0 a1 : Value) : WP :=
  op PR Pn (S.conv 50 142 a1) fun x7 =>
  op PR Pn (S.fn F.cursor_Writer_number [a0, x7, (.int .i64 2)]) fun x8 =>
  K x8
theorem enter.cursor_Writer_I16 {Pn : PK} {K : Value → WP} {a0 a1 : Value} {w : World} (h : W.cursor_Writer_I16 Pn K a0 a1 w) : op PR Pn (S.fn F.cursor_Writer_I16 [a0, a1]) K w :=
  op_call (first := []) (cap := []) (args := [a0, a1]) Go.Proofs.Try.func99 (by kernel_rfl) rfl (calls_of_denF (args := [a0, a1]) (h := (.s none .n (.s none .n .n))) mixed Go.Proofs.Try.func99 rfl (by kernel_rfl) (Eq.mp (by kernel_rfl) h))
/-- (*leat/cursor.Writer).Raw: function 100. -/
def W.cursor_Writer_Raw (Pn : PK) (K : Value → WP) (a0 a1 : Value) : WP :=
  op PR Pn (S.bi .len #[39] 3 [false] [a1]) fun x11 =>
  L2 (.int .i64 0) (.int .i64 0) (fun x5 x12 xk =>
    op PR Pn (S.bin .lss 3 (.tmp 12) (.tmp 11) x12 x11) fun x13 =>
    ite' x13
    (op PR Pn (S.ia 39 a1 x12) fun x14 =>
      op PR Pn (S.load 23 x14) fun x15 =>
      op PR Pn (S.bi .len #[23] 3 [false] [x15]) fun x18 =>
      op PR Pn (S.bin .add 3 (.tmp 16) (.tmp 18) x5 x18) fun x19 =>
      op PR Pn (S.bin .add 3 (.tmp 12) (.const (.int .i64 1)) x12 (.int .i64 1)) fun x20 =>
      xk x19 x20)
    (op PR Pn (S.fn F.cursor_Writer_Room [a0]) fun x23 =>
      op PR Pn (S.bin .gtr 3 (.tmp 21) (.tmp 23) x5 x23) fun x24 =>
      ite' x24
      (K (.int .i64 10))
      (op PR Pn (S.bi .len #[39] 3 [false] [a1]) fun x26 =>
        L1 (.int .i64 0) (fun x27 xk_1 =>
          op PR Pn (S.bin .lss 3 (.tmp 27) (.tmp 26) x27 x26) fun x28 =>
          ite' x28
          (op PR Pn (S.ia 39 a1 x27) fun x29 =>
            op PR Pn (S.load 23 x29) fun x30 =>
            op PR Pn (S.nilc a0) fun x33 =>
            op PR Pn (S.fa 96 x33 0) fun x34 =>
            op PR Pn (S.load 23 x34) fun x35 =>
            op PR Pn (S.bi .append #[23, 23] 23 [false, false] [x35, x30]) fun x37 =>
            op PR Pn (S.nilc a0) fun x38 =>
            op PR Pn (S.fa 96 x38 0) fun x39 =>
            op PR Pn (S.store 23 x39 x37) fun _ =>
            op PR Pn (S.bin .add 3 (.tmp 27) (.const (.int .i64 1)) x27 (.int .i64 1)) fun x40 =>
            xk_1 x40)
          (K (.int .i64 0))))))
theorem enter.cursor_Writer_Raw {Pn : PK} {K : Value → WP} {a0 a1 : Value} {w : World} (h : W.cursor_Writer_Raw Pn K a0 a1 w) : op PR Pn (S.fn F.cursor_Writer_Raw [a0, a1]) K w :=
  op_call (first := []) (cap := []) (args := [a0, a1]) Go.Proofs.Try.func100 (by kernel_rfl) rfl (calls_of_denF (args := [a0, a1]) (h := (.s none .n (.s none .n (.s none (.s none .n (.bl (.lp [5, 12] (.s none .n (.s none (.c .n .n) (.s none (.bl (.s none .n .n)) .n)))))) (.s none (.s none .n (.c (.s none .n .n) .n)) (.s none (.s none .n (.bl (.lp [27] (.s none .n (.s none (.c .n .n) (.s none (.bl (.s none .n .n)) .n)))))) (.s none .n .n))))))) mixed Go.Proofs.Try.func100 rfl (by kernel_rfl) (Eq.mp (by kernel_rfl) h))
/-- strings.HasPrefix: function 101. -/
def W.strings_HasPrefix (Pn : PK) (K : Value → WP) (a0 a1 : Value) : WP :=
  op PR Pn (S.fn F.stringslite_HasPrefix [a0, a1]) fun x7 =>
  K x7
theorem enter.strings_HasPrefix {Pn : PK} {K : Value → WP} {a0 a1 : Value} {w : World} (h : W.strings_HasPrefix Pn K a0 a1 w) : op PR Pn (S.fn F.strings_HasPrefix [a0, a1]) K w :=
  op_call (first := []) (cap := []) (args := [a0, a1]) Go.Proofs.Try.func101 (by kernel_rfl) rfl (calls_of_denF (args := [a0, a1]) (h := (.s none .n (.s none .n .n))) mixed Go.Proofs.Try.func101 rfl (by kernel_rfl) (Eq.mp (by kernel_rfl) h))
/-- (*leat/cursor.Reader).number: function 102. -/
def W.cursor_Reader_number (Pn : PK) (K : Value → WP) (a0 a1 : Value) : WP :=
  op PR Pn (S.fn F.cursor_Reader_Left [a0]) fun x10 =>
  op PR Pn (S.bin .lss 3 (.tmp 10) (.tmp 11) x10 a1) fun x12 =>
  ite' x12
  (K (.tuple #[(.int .u64 0), (.int .i64 1)]))
  (drawn <|
    lt PR (S.mv a0) fun x13 =>
    lt PR (S.nilc x13) fun x14 =>
    lt PR (S.fa 91 x14 0) fun x15 =>
    lt PR (S.load 23 x15) fun x16 =>
    lt PR (S.mv a0) fun x17 =>
    lt PR (S.nilc x17) fun x18 =>
    lt PR (S.fa 91 x18 1) fun x19 =>
    lt PR (S.load 3 x19) fun x20 =>
    lt PR (S.mv a0) fun x21 =>
    lt PR (S.nilc x21) fun x22 =>
    lt PR (S.fa 91 x22 1) fun x23 =>
    lt PR (S.load 3 x23) fun x24 =>
    lt PR (S.mv a1) fun x25 =>
    lt PR (S.bin .add 3 (.tmp 24) (.tmp 25) x24 x25) fun x26 =>
    lt PR (S.sl 23 x16 (some x20) (some x26) none) fun x27 =>
    lt PR (S.bi .len #[23] 3 [false] [x27]) fun x28 =>
    lt PR (S.mv (.int .i64 0)) fun x29 =>
    L2 (.int .u64 0) x29 (fun x6 x29_1 xk =>
      op PR Pn (S.bin .lss 3 (.tmp 29) (.tmp 28) x29_1 x28) fun x30 =>
      ite' x30
      (op PR Pn (S.ia 23 x27 x29_1) fun x31 =>
        op PR Pn (S.load 5 x31) fun x32 =>
        op PR Pn (S.bin .shl 142 (.tmp 33) (.const (.int .u64 8)) x6 (.int .u64 8)) fun x34 =>
        op PR Pn (S.conv 5 142 x32) fun x36 =>
        op PR Pn (S.bin .or 142 (.tmp 34) (.tmp 36) x34 x36) fun x37 =>
        op PR Pn (S.bin .add 3 (.tmp 29) (.const (.int .i64 1)) x29_1 (.int .i64 1)) fun x38 =>
        xk x37 x38)
      (op PR Pn (S.nilc a0) fun x40 =>
        op PR Pn (S.fa 91 x40 1) fun x41 =>
        op PR Pn (S.load 3 x41) fun x42 =>
        op PR Pn (S.bin .add 3 (.tmp 42) (.tmp 43) x42 a1) fun x44 =>
        op PR Pn (S.nilc a0) fun x45 =>
        op PR Pn (S.fa 91 x45 1) fun x46 =>
        op PR Pn (S.store 3 x46 x44) fun _ =>
        K (.tuple #[x6, (.int .i64 0)]))))
theorem enter.cursor_Reader_number {Pn : PK} {K : Value → WP} {a0 a1 : Value} {w : World} (h : W.cursor_Reader_number Pn K a0 a1 w) : op PR Pn (S.fn F.cursor_Reader_number [a0, a1]) K w :=
  op_call (first := []) (cap := []) (args := [a0, a1]) Go.Proofs.Try.func102 (by kernel_rfl) rfl (calls_of_denF (args := [a0, a1]) (h := (.s none .n (.s none (.s none .n (.c (.s none .n .n) .n)) (.s none .n (.s none (.s none (.rg (.ev [0, 1, 2, 3, 4, 5, 6, 7, 8, 9, 10, 11, 12, 13, 14, 15, 16] [] .fin) [[], [0], [0, 1], [0, 1, 2], [], [4], [4, 5], [4, 5, 6], [], [8], [8, 9], [8, 9, 10], [], [8, 9, 10, 11, 12], [0, 1, 2, 3, 4, 5, 6, 7, 8, 9, 10, 11, 12, 13], [0, 1, 2, 3, 4, 5, 6, 7, 8, 9, 10, 11, 12, 13, 14], []]) (.bl (.lp [6, 29] (.s none .n (.s none (.c .n .n) (.s none (.bl (.s none .n .n)) .n)))))) (.s none .n (.s none .n .n))))))) mixed Go.Proofs.Try.func102 rfl (by kernel_rfl) (Eq.mp (by kernel_rfl) h))
/-- (*leat/cursor.Reader).Skip: function 103. -/
def W.cursor_Reader_Skip (Pn : PK) (K : Value → WP) (a0 a1 : Value) : WP :=
  op PR Pn (S.bin .lss 3 (.tmp 5) (.const (.int .i64 0)) a1 (.int .i64 0)) fun x6 =>
  ite' x6
  (K (.int .i64 3))
  (op PR Pn (S.fn F.cursor_Reader_Left [a0]) fun x9 =>
    op PR Pn (S.bin .gtr 3 (.tmp 7) (.tmp 9) a1 x9) fun x10 =>
    ite' x10
    (K (.int .i64 1))
    (op PR Pn (S.nilc a0) fun x12 =>
      op PR Pn (S.fa 91 x12 1) fun x13 =>
      op PR Pn (S.load 3 x13) fun x14 =>
      op PR Pn (S.bin .add 3 (.tmp 14) (.tmp 15) x14 a1) fun x16 =>
      op PR Pn (S.nilc a0) fun x17 =>
      op PR Pn (S.fa 91 x17 1) fun x18 =>
      op PR Pn (S.store 3 x18 x16) fun _ =>
      K (.int .i64 0)))
theorem enter.cursor_Reader_Skip {Pn : PK} {K : Value → WP} {a0 a1 : Value} {w : World} (h : W.cursor_Reader_Skip Pn K a0 a1 w) : op PR Pn (S.fn F.cursor_Reader_Skip [a0, a1]) K w :=
  op_call (first := []) (cap := []) (args := [a0, a1]) Go.Proofs.Try.func103 (by kernel_rfl) rfl (calls_of_denF (args := [a0, a1]) (h := (.s none .n (.s none (.s none .n (.c (.s none .n .n) .n)) (.s none (.s none .n (.c (.s none .n .n) .n)) (.s none .n (.s none .n .n)))))) mixed Go.Proofs.Try.func103 rfl (by kernel_rfl) (Eq.mp (by kernel_rfl) h))
/-- (*leat/cursor.Writer).number: function 104. -/
def W.cursor_Writer_number (Pn : PK) (K : Value → WP) (a0 a1 a2 : Value) : WP :=
  op PR Pn (S.fn F.cursor_Writer_Room [a0]) fun x9 =>
  op PR Pn (S.bin .lss 3 (.tmp 9) (.tmp 10) x9 a2) fun x11 =>
  ite' x11
  (K (.int .i64 10))
  (op PR Pn (S.bin .sub 3 (.tmp 12) (.const (.int .i64 1)) a2 (.int .i64 1)) fun x13 =>
    L1 x13 (fun x7 xk =>
      op PR Pn (S.bin .geq 3 (.tmp 14) (.const (.int .i64 0)) x7 (.int .i64 0)) fun x15 =>
      ite' x15
      (drawn <|
        lt PR (S.mv a0) fun x18 =>
        lt PR (S.mv a0) fun x19 =>
        lt PR (S.nilc x19) fun x20 =>
        lt PR (S.fa 96 x20 0) fun x21 =>
        lt PR (S.load 23 x21) fun x22 =>
        lt PR (S.mv a1) fun x23 =>
        lt PR (S.mv x7) fun x24 =>
        lt PR (S.bin .mul 3 (.const (.int .i64 8)) (.tmp 24) (.int .i64 8) x24) fun x25 =>
        lt PR (S.bin .shr 142 (.tmp 23) (.tmp 25) x23 x25) fun x26 =>
        lt PR (S.conv 142 5 x26) fun x27 =>
        op PR Pn (S.bslice 23 1 [(0, x27)]) fun x28 =>
        rc PR (S.mv a0) x18 <|
        rc PR (S.mv a0) x19 <|
        rc PR (S.nilc x19) x20 <|
        rc PR (S.fa 96 x20 0) x21 <|
        rc PR (S.load 23 x21) x22 <|
        op PR Pn (S.bi .append #[23, 23] 23 [false, false] [x22, x28]) fun x29 =>
        lt PR (S.nilc x18) fun x30 =>
        lt PR (S.fa 96 x30 0) fun x31 =>
        rc PR (S.mv a0) x18 <|
        op PR Pn (S.store 23 x31 x29) fun _ =>
        op PR Pn (S.bin .sub 3 (.tmp 16) (.const (.int .i64 1)) x7 (.int .i64 1)) fun x17 =>
        xk x17)
      (K (.int .i64 0))))
theorem enter.cursor_Writer_number {Pn : PK} {K : Value → WP} {a0 a1 a2 : Value} {w : World} (h : W.cursor_Writer_number Pn K a0 a1 a2 w) : op PR Pn (S.fn F.cursor_Writer_number [a0, a1, a2]) K w :=
  op_call (first := []) (cap := []) (args := [a0, a1, a2]) Go.Proofs.Try.func104 (by kernel_rfl) rfl (calls_of_denF (args := [a0, a1, a2]) (h := (.s none .n (.s none (.s none .n (.c (.s none .n .n) .n)) (.s none (.s none .n (.bl (.lp [7] (.s none (.s none .n (.c .n .n)) (.s none (.bl (.rg (.ev [0, 1, 2, 3, 4, 5, 6, 7, 8, 9] [] (.hv 10 (.ev [] [0, 1, 2, 3, 4] (.hv 11 (.ev [12, 13] [0] (.hv 14 .fin)))))) [[], [], [1], [1, 2], [1, 2, 3], [], [], [6], [5, 6, 7], [5, 6, 7, 8], [5, 6, 7, 8, 9], [1, 2, 3, 4, 5, 6, 7, 8, 9, 10], [0, 1, 2, 3, 4, 5, 6, 7, 8, 9, 10, 11], [0, 1, 2, 3, 4, 5, 6, 7, 8, 9, 10, 11, 12], [0, 1, 2, 3, 4, 5, 6, 7, 8, 9, 10, 11, 12, 13]])) .n))))) (.s none .n .n))))) mixed Go.Proofs.Try.func104 rfl (by kernel_rfl) (Eq.mp (by kernel_rfl) h))
/-- (*leat/cursor.Writer).Room: function 105. -/
def W.cursor_Writer_Room (Pn : PK) (K : Value → WP) (a0 : Value) : WP :=
  drawn <|
  lt PR (S.mv a0) fun x3 =>
  lt PR (S.nilc x3) fun x4 =>
  lt PR (S.fa 96 x4 1) fun x5 =>
  lt PR (S.load 3 x5) fun x6 =>
  lt PR (S.mv a0) fun x7 =>
  lt PR (S.nilc x7) fun x8 =>
  lt PR (S.fa 96 x8 0) fun x9 =>
  lt PR (S.load 23 x9) fun x10 =>
  lt PR (S.bi .len #[23] 3 [false] [x10]) fun x11 =>
  lt PR (S.bin .sub 3 (.tmp 6) (.tmp 11) x6 x11) fun x12 =>
  lt PR (S.mv x12) fun x2 =>
  K x2
theorem enter.cursor_Writer_Room {Pn : PK} {K : Value → WP} {a0 : Value} {w : World} (h : W.cursor_Writer_Room Pn K a0 w) : op PR Pn (S.fn F.cursor_Writer_Room [a0]) K w :=
  op_call (first := []) (cap := []) (args := [a0]) Go.Proofs.Try.func105 (by kernel_rfl) rfl (calls_of_denF (args := [a0]) (h := (.s none .n (.s none (.rg (.ev [0, 1, 2, 3, 4, 5, 6, 7, 8, 9, 10] [] .fin) [[], [0], [0, 1], [0, 1, 2], [], [4], [4, 5], [4, 5, 6], [4, 5, 6, 7], [0, 1, 2, 3, 4, 5, 6, 7, 8], [0, 1, 2, 3, 4, 5, 6, 7, 8, 9]]) .n))) mixed Go.Proofs.Try.func105 rfl (by kernel_rfl) (Eq.mp (by kernel_rfl) h))
/-- internal/stringslite.HasPrefix: function 106. -/
def W.stringslite_HasPrefix (Pn : PK) (K : Value → WP) (a0 a1 : Value) : WP :=
  op PR Pn (S.bi .len #[9] 3 [false] [a0]) fun x6 =>
  op PR Pn (S.bi .len #[9] 3 [false] [a1]) fun x8 =>
  op PR Pn (S.bin .geq 3 (.tmp 6) (.tmp 8) x6 x8) fun x9 =>
  gop PR Pn x9 true (S.mv a0) fun x11 =>
  gop PR Pn x9 true (S.mv a1) fun x12 =>
  gop PR Pn x9 true (S.bi .len #[9] 3 [false] [x12]) fun x13 =>
  gop PR Pn x9 true (S.sl 9 x11 none (some x13) none) fun x14 =>
  gop PR Pn x9 true (S.mv a1) fun x15 =>
  gop PR Pn x9 true (S.bin .eql 9 (.tmp 14) (.tmp 15) x14 x15) fun x16 =>
  op PR Pn (S.pick x9 x16 (.bool false)) fun x17 =>
  K x17
theorem enter.stringslite_HasPrefix {Pn : PK} {K : Value → WP} {a0 a1 : Value} {w : World} (h : W.stringslite_HasPrefix Pn K a0 a1 w) : op PR Pn (S.fn F.stringslite_HasPrefix [a0, a1]) K w :=
  op_call (first := []) (cap := []) (args := [a0, a1]) Go.Proofs.Try.func106 (by kernel_rfl) rfl (calls_of_denF (args := [a0, a1]) (h := (.s none .n (.s none .n .n))) mixed Go.Proofs.Try.func106 rfl (by kernel_rfl) (Eq.mp (by kernel_rfl) h))
/-- (*leat/cursor.Reader).Left: function 107. -/
def W.cursor_Reader_Left (Pn : PK) (K : Value → WP) (a0 : Value) : WP :=
  drawn <|
  lt PR (S.mv a0) fun x3 =>
  lt PR (S.nilc x3) fun x4 =>
  lt PR (S.fa 91 x4 0) fun x5 =>
  lt PR (S.load 23 x5) fun x6 =>
  lt PR (S.bi .len #[23] 3 [false] [x6]) fun x7 =>
  lt PR (S.mv a0) fun x8 =>
  lt PR (S.nilc x8) fun x9 =>
  lt PR (S.fa 91 x9 1) fun x10 =>
  lt PR (S.load 3 x10) fun x11 =>
  lt PR (S.bin .sub 3 (.tmp 7) (.tmp 11) x7 x11) fun x12 =>
  lt PR (S.mv x12) fun x2 =>
  K x2
theorem enter.cursor_Reader_Left {Pn : PK} {K : Value → WP} {a0 : Value} {w : World} (h : W.cursor_Reader_Left Pn K a0 w) : op PR Pn (S.fn F.cursor_Reader_Left [a0]) K w :=
  op_call (first := []) (cap := []) (args := [a0]) Go.Proofs.Try.func107 (by kernel_rfl) rfl (calls_of_denF (args := [a0]) (h := (.s none .n (.s none (.rg (.ev [0, 1, 2, 3, 4, 5, 6, 7, 8, 9, 10] [] .fin) [[], [0], [0, 1], [0, 1, 2], [0, 1, 2, 3], [], [5], [5, 6], [5, 6, 7], [0, 1, 2, 3, 4, 5, 6, 7, 8], [0, 1, 2, 3, 4, 5, 6, 7, 8, 9]]) .n))) mixed Go.Proofs.Try.func107 rfl (by kernel_rfl) (Eq.mp (by kernel_rfl) h))
/-- (leat/schema.blob).check: function 108. -/
def W.schema_blob_check (Pn : PK) (K : Value → WP) (a0 a1 : Value) : WP :=
  op PR Pn (S.box 115 a0) fun x2 =>
  op PR Pn (S.box 29 a1) fun x3 =>
  op PR Pn (S.load 29 x3) fun x5 =>
  op PR Pn (S.fa 115 x2 0) fun x6 =>
  op PR Pn (S.load 3 x6) fun x7 =>
  op PR Pn (S.fa 115 x2 0) fun x8 =>
  op PR Pn (S.load 3 x8) fun x9 =>
  op PR Pn (S.bin .eql 3 (.tmp 9) (.const (.int .i64 8)) x9 (.int .i64 8)) fun x10 =>
  op PR Pn (S.fn F.schema_plain [x5, x7, (.bool false), (.bool true), x10, (.bool false)]) fun x11 =>
  op PR Pn (S.un .not x11) fun x12 =>
  ite' x12
  (K (.int .i64 101))
  (op PR Pn (S.fa 29 x3 2) fun x13 =>
    op PR Pn (S.load 4 x13) fun x14 =>
    gop PR Pn x14 true (S.fa 29 x3 3) fun x16 =>
    gop PR Pn x14 true (S.load 23 x16) fun x17 =>
    gop PR Pn x14 true (S.bi .len #[23] 3 [false] [x17]) fun x18 =>
    gop PR Pn x14 true (S.bin .gtr 3 (.tmp 18) (.const (.int .i64 0)) x18 (.int .i64 0)) fun x19 =>
    op PR Pn (S.pick x14 x19 (.bool false)) fun x20 =>
    ite' x20
    (K (.int .i64 70))
    (K (.int .i64 0)))
theorem enter.schema_blob_check {Pn : PK} {K : Value → WP} {a0 a1 : Value} {w : World} (h : W.schema_blob_check Pn K a0 a1 w) : op PR Pn (S.fn F.schema_blob_check [a0, a1]) K w :=
  op_call (first := []) (cap := []) (args := [a0, a1]) Go.Proofs.Try.func108 (by kernel_rfl) rfl (calls_of_denF (args := [a0, a1]) (h := (.s none .n (.s none (.s none .n (.c (.s none .n .n) .n)) (.s none (.s none .n (.c (.s none .n .n) .n)) (.s none .n .n))))) mixed Go.Proofs.Try.func108 rfl (by kernel_rfl) (Eq.mp (by kernel_rfl) h))
/-- (leat/schema.blob).get: function 109. -/
def W.schema_blob_get (Pn : PK) (K : Value → WP) (a0 a1 : Value) : WP :=
  op PR Pn (S.box 115 a0) fun x2 =>
  op PR Pn (S.alloc 29) fun x4 =>
  op PR Pn (S.fn F.cursor_Reader_I32 [a1]) fun x11 =>
  op PR Pn (S.ext x11 0) fun x12 =>
  op PR Pn (S.ext x11 1) fun x13 =>
  op PR Pn (S.bin .neq 32 (.tmp 15) (.const (.int .i64 0)) x13 (.int .i64 0)) fun x16 =>
  ite' x16
  (op PR Pn (S.build 29 []) fun x17 =>
    op PR Pn (S.store 29 x4 x17) fun _ =>
    ldR PR 29 x4 fun xr => K (.tuple #[xr, x13]))
  (op PR Pn (S.bin .eql 21 (.tmp 20) (.const (.int .i32 (-1))) x12 (.int .i32 (-1))) fun x21 =>
    gop PR Pn x21 true (S.fa 115 x2 0) fun x23 =>
    gop PR Pn x21 true (S.load 3 x23) fun x24 =>
    gop PR Pn x21 true (S.bin .eql 3 (.tmp 24) (.const (.int .i64 8)) x24 (.int .i64 8)) fun x25 =>
    op PR Pn (S.pick x21 x25 (.bool false)) fun x26 =>
    ite' x26
    (op PR Pn (S.fa 115 x2 0) fun x27 =>
      op PR Pn (S.load 3 x27) fun x28 =>
      op PR Pn (S.build 29 [(0, x28), (2, (.bool true))]) fun x29 =>
      op PR Pn (S.store 29 x4 x29) fun _ =>
      ldR PR 29 x4 fun xr_1 => K (.tuple #[xr_1, (.int .i64 0)]))
    (op PR Pn (S.bin .lss 21 (.tmp 31) (.const (.int .i32 0)) x12 (.int .i32 0)) fun x32 =>
      ite' x32
      (op PR Pn (S.build 29 []) fun x33 =>
        op PR Pn (S.store 29 x4 x33) fun _ =>
        ldR PR 29 x4 fun xr_2 => K (.tuple #[xr_2, (.int .i64 5)]))
      (op PR Pn (S.conv 21 3 x12) fun x37 =>
        op PR Pn (S.fn F.cursor_Reader_Take [a1, x37]) fun x38 =>
        op PR Pn (S.ext x38 0) fun x39 =>
        op PR Pn (S.ext x38 1) fun x40 =>
        op PR Pn (S.bin .neq 32 (.tmp 41) (.const (.int .i64 0)) x40 (.int .i64 0)) fun x42 =>
        ite' x42
        (op PR Pn (S.build 29 []) fun x43 =>
          op PR Pn (S.store 29 x4 x43) fun _ =>
          ldR PR 29 x4 fun xr_3 => K (.tuple #[xr_3, x40]))
        (op PR Pn (S.fa 115 x2 0) fun x45 =>
          op PR Pn (S.load 3 x45) fun x46 =>
          op PR Pn (S.build 29 [(0, x46), (3, x39)]) fun x48 =>
          op PR Pn (S.store 29 x4 x48) fun _ =>
          ldR PR 29 x4 fun xr_4 => K (.tuple #[xr_4, (.int .i64 0)])))))
theorem enter.schema_blob_get {Pn : PK} {K : Value → WP} {a0 a1 : Value} {w : World} (h : W.schema_blob_get Pn K a0 a1 w) : op PR Pn (S.fn F.schema_blob_get [a0, a1]) K w :=
  op_call (first := []) (cap := []) (args := [a0, a1]) Go.Proofs.Try.func109 (by kernel_rfl) rfl (calls_of_denF (args := [a0, a1]) (h := (.s none .n (.s none .n (.s none (.bl (.s none .n (.c (.s none .n .n) (.s none .n (.c (.s none .n .n) (.s none .n (.c (.s none .n .n) .n))))))) (.s none .n (.s none (.s none .n (.c (.s none .n .n) .n)) (.s none .n .n))))))) mixed Go.Proofs.Try.func109 rfl (by kernel_rfl) (Eq.mp (by kernel_rfl) h))
/-- (leat/schema.blob).put: function 110. -/
def W.schema_blob_put (Pn : PK) (K : Value → WP) (a0 a1 a2 : Value) : WP :=
  op PR Pn (S.box 115 a0) fun x3 =>
  op PR Pn (S.box 29 a2) fun x5 =>
  op PR Pn (S.fa 29 x5 2) fun x8 =>
  op PR Pn (S.load 4 x8) fun x9 =>
  ite' x9
  (op PR Pn (S.fn F.cursor_Writer_I32 [a1, (.int .i32 (-1))]) fun x11 =>
    K x11)
  (op PR Pn (S.fa 29 x5 3) fun x12 =>
    op PR Pn (S.load 23 x12) fun x13 =>
    op PR Pn (S.bi .len #[23] 3 [false] [x13]) fun x14 =>
    op PR Pn (S.bin .gtr 3 (.tmp 14) (.const (.int .i64 130048)) x14 (.int .i64 130048)) fun x15 =>
    ite' x15
    (K (.int .i64 10))
    (op PR Pn (S.fa 29 x5 3) fun x17 =>
      op PR Pn (S.load 23 x17) fun x18 =>
      op PR Pn (S.bi .len #[23] 3 [false] [x18]) fun x19 =>
      op PR Pn (S.conv 3 21 x19) fun x20 =>
      op PR Pn (S.fn F.cursor_Writer_I32 [a1, x20]) fun x21 =>
      op PR Pn (S.bin .neq 32 (.tmp 22) (.const (.int .i64 0)) x21 (.int .i64 0)) fun x23 =>
      ite' x23
      (K x21)
      (op PR Pn (S.fa 29 x5 3) fun x26 =>
        op PR Pn (S.load 23 x26) fun x27 =>
        op PR Pn (S.bslice 39 1 [(0, x27)]) fun x28 =>
        op PR Pn (S.fn F.cursor_Writer_Raw [a1, x28]) fun x29 =>
        K x29)))
theorem enter.schema_blob_put {Pn : PK} {K : Value → WP} {a0 a1 a2 : Value} {w : World} (h : W.schema_blob_put Pn K a0 a1 a2 w) : op PR Pn (S.fn F.schema_blob_put [a0, a1, a2]) K w :=
  op_call (first := []) (cap := []) (args := [a0, a1, a2]) Go.Proofs.Try.func110 (by kernel_rfl) rfl (calls_of_denF (args := [a0, a1, a2]) (h := (.s none .n (.s none (.s none .n (.c (.s none .n .n) .n)) (.s none (.s none .n (.c (.s none .n .n) .n)) (.s none (.s none .n (.s none .n (.c (.s none .n .n) .n))) (.s none .n .n)))))) mixed Go.Proofs.Try.func110 rfl (by kernel_rfl) (Eq.mp (by kernel_rfl) h))
/-- (*leat/cursor.Reader).I32: function 111. -/
def W.cursor_Reader_I32 (Pn : PK) (K : Value → WP) (a0 : Value) : WP :=
  op PR Pn (S.fn F.cursor_Reader_number [a0, (.int .i64 4)]) fun x8 =>
  op PR Pn (S.ext x8 0) fun x9 =>
  op PR Pn (S.ext x8 1) fun x10 =>
  op PR Pn (S.conv 142 21 x9) fun x12 =>
  K (.tuple #[x12, x10])
theorem enter.cursor_Reader_I32 {Pn : PK} {K : Value → WP} {a0 : Value} {w : World} (h : W.cursor_Reader_I32 Pn K a0 w) : op PR Pn (S.fn F.cursor_Reader_I32 [a0]) K w :=
  op_call (first := []) (cap := []) (args := [a0]) Go.Proofs.Try.func111 (by kernel_rfl) rfl (calls_of_denF (args := [a0]) (h := (.s none .n (.s none .n (.s none .n .n)))) mixed Go.Proofs.Try.func111 rfl (by kernel_rfl) (Eq.mp (by kernel_rfl) h))
/-- (*leat/cursor.Writer).I32: function 112. -/
def W.cursor_Writer_I32 (Pn : PK) (K : Value → WP) (a0 a1 : Value) : WP :=
  op PR Pn (S.conv 21 142 a1) fun x7 =>
  op PR Pn (S.fn F.cursor_Writer_number [a0, x7, (.int .i64 4)]) fun x8 =>
  K x8
theorem enter.cursor_Writer_I32 {Pn : PK} {K : Value → WP} {a0 a1 : Value} {w : World} (h : W.cursor_Writer_I32 Pn K a0 a1 w) : op PR Pn (S.fn F.cursor_Writer_I32 [a0, a1]) K w :=
  op_call (first := []) (cap := []) (args := [a0, a1]) Go.Proofs.Try.func112 (by kernel_rfl) rfl (calls_of_denF (args := [a0, a1]) (h := (.s none .n (.s none .n .n))) mixed Go.Proofs.Try.func112 rfl (by kernel_rfl) (Eq.mp (by kernel_rfl) h))
/-- (leat/schema.array).check: function 113. -/
def W.schema_array_check (Pn : PK) (K : Value → WP) (a0 a1 : Value) : WP :=
  op PR Pn (S.box 117 a0) fun x2 =>
  op PR Pn (S.box 29 a1) fun x3 =>
  op PR Pn (S.load 29 x3) fun x8 =>
  op PR Pn (S.fn F.schema_plain [x8, (.int .i64 9), (.bool false), (.bool false), (.bool false), (.bool true)]) fun x9 =>
  op PR Pn (S.un .not x9) fun x10 =>
  ite' x10
  (K (.int .i64 101))
  (op PR Pn (S.fa 29 x3 4) fun x11 =>
    op PR Pn (S.load 27 x11) fun x12 =>
    op PR Pn (S.bi .len #[27] 3 [false] [x12]) fun x13 =>
    op PR Pn (S.bin .gtr 3 (.tmp 13) (.const (.int .i64 16)) x13 (.int .i64 16)) fun x14 =>
    ite' x14
    (K (.int .i64 9))
    (op PR Pn (S.fa 29 x3 4) fun x15 =>
      op PR Pn (S.load 27 x15) fun x16 =>
      op PR Pn (S.bi .len #[27] 3 [false] [x16]) fun x17 =>
      L2 (.int .i64 0) (.int .i64 0) (fun x4 x18 xk =>
        op PR Pn (S.bin .lss 3 (.tmp 18) (.tmp 17) x18 x17) fun x19 =>
        ite' x19
        (op PR Pn (S.ia 27 x16 x18) fun x20 =>
          op PR Pn (S.load 29 x20) fun x21 =>
          op PR Pn (S.alloc 29) fun x6 =>
          op PR Pn (S.store 29 x6 x21) fun _ =>
          op PR Pn (S.fa 117 x2 0) fun x22 =>
          op PR Pn (S.load 93 x22) fun x23 =>
          op PR Pn (S.load 29 x6) fun x24 =>
          op PR Pn (S.invoke x23 "leat/schema.check" [x24]) fun x25 =>
          op PR Pn (S.bin .neq 32 (.tmp 26) (.const (.int .i64 0)) x25 (.int .i64 0)) fun x27 =>
          ite' x27
          (K x25)
          (op PR Pn (S.bin .add 3 (.tmp 18) (.const (.int .i64 1)) x18 (.int .i64 1)) fun x29 =>
            xk x4 x29))
        (K (.int .i64 0)))))
theorem enter.schema_array_check {Pn : PK} {K : Value → WP} {a0 a1 : Value} {w : World} (h : W.schema_array_check Pn K a0 a1 w) : op PR Pn (S.fn F.schema_array_check [a0, a1]) K w :=
  op_call (first := []) (cap := []) (args := [a0, a1]) Go.Proofs.Try.func113 (by kernel_rfl) rfl (calls_of_denF (args := [a0, a1]) (h := (.s none .n (.s none (.s none .n (.c (.s none .n .n) .n)) (.s none (.s none .n (.c (.s none .n .n) .n)) (.s none (.s none .n (.bl (.lp [4, 18] (.s none .n (.s none (.c .n .n) (.s none (.bl (.s none .n (.s none .n (.s none .n (.c (.s none .n .n) .n))))) .n)))))) (.s none .n .n)))))) mixed Go.Proofs.Try.func113 rfl (by kernel_rfl) (Eq.mp (by kernel_rfl) h))
/-- (leat/schema.array).get: function 114. -/
def W.schema_array_get (Pn : PK) (K : Value → WP) (a0 a1 : Value) : WP :=
  op PR Pn (S.box 117 a0) fun x2 =>
  op PR Pn (S.alloc 29) fun x4 =>
  op PR Pn (S.fn F.cursor_Reader_I32 [a1]) fun x13 =>
  op PR Pn (S.ext x13 0) fun x14 =>
  op PR Pn (S.ext x13 1) fun x15 =>
  op PR Pn (S.bin .neq 32 (.tmp 17) (.const (.int .i64 0)) x15 (.int .i64 0)) fun x18 =>
  ite' x18
  (op PR Pn (S.build 29 []) fun x19 =>
    op PR Pn (S.store 29 x4 x19) fun _ =>
    ldR PR 29 x4 fun xr => K (.tuple #[xr, x15]))
  (op PR Pn (S.bin .lss 21 (.tmp 22) (.const (.int .i32 0)) x14 (.int .i32 0)) fun x23 =>
    ite' x23
    (op PR Pn (S.build 29 []) fun x24 =>
      op PR Pn (S.store 29 x4 x24) fun _ =>
      ldR PR 29 x4 fun xr_1 => K (.tuple #[xr_1, (.int .i64 5)]))
    (op PR Pn (S.bin .gtr 21 (.tmp 26) (.const (.int .i32 16)) x14 (.int .i32 16)) fun x27 =>
      ite' x27
      (op PR Pn (S.build 29 []) fun x28 =>
        op PR Pn (S.store 29 x4 x28) fun _ =>
        ldR PR 29 x4 fun xr_2 => K (.tuple #[xr_2, (.int .i64 9)]))
      (op PR Pn (S.build 29 [(0, (.int .i64 9))]) fun x29 =>
        op PR Pn (S.alloc 29) fun x8 =>
        op PR Pn (S.store 29 x8 x29) fun _ =>
        L2 (.int .i64 0) (.int .i32 0) (fun x5 x31 xk =>
          op PR Pn (S.bin .lss 21 (.tmp 31) (.tmp 30) x31 x14) fun x32 =>
          ite' x32
          (op PR Pn (S.fa 117 x2 0) fun x34 =>
            op PR Pn (S.load 93 x34) fun x35 =>
            op PR Pn (S.invoke x35 "leat/schema.get" [a1]) fun x37 =>
            op PR Pn (S.ext x37 0) fun x38 =>
            op PR Pn (S.ext x37 1) fun x39 =>
            op PR Pn (S.alloc 29) fun x9 =>
            op PR Pn (S.store 29 x9 x38) fun _ =>
            op PR Pn (S.bin .neq 32 (.tmp 40) (.const (.int .i64 0)) x39 (.int .i64 0)) fun x41 =>
            ite' x41
            (op PR Pn (S.build 29 []) fun x42 =>
              op PR Pn (S.store 29 x4 x42) fun _ =>
              ldR PR 29 x4 fun xr_3 => K (.tuple #[xr_3, x39]))
            (op PR Pn (S.fa 29 x8 4) fun x44 =>
              op PR Pn (S.load 27 x44) fun x45 =>
              op PR Pn (S.load 29 x9) fun x46 =>
              op PR Pn (S.bslice 27 1 [(0, x46)]) fun x47 =>
              op PR Pn (S.bi .append #[27, 27] 27 [false, false] [x45, x47]) fun x48 =>
              op PR Pn (S.fa 29 x8 4) fun x49 =>
              op PR Pn (S.store 27 x49 x48) fun _ =>
              op PR Pn (S.bin .add 21 (.tmp 31) (.const (.int .i32 1)) x31 (.int .i32 1)) fun x50 =>
              xk x5 x50))
          (op PR Pn (S.load 29 x8) fun x51 =>
            op PR Pn (S.store 29 x4 x51) fun _ =>
            ldR PR 29 x4 fun xr_4 => K (.tuple #[xr_4, (.int .i64 0)]))))))
theorem enter.schema_array_get {Pn : PK} {K : Value → WP} {a0 a1 : Value} {w : World} (h : W.schema_array_get Pn K a0 a1 w) : op PR Pn (S.fn F.schema_array_get [a0, a1]) K w :=
  op_call (first := []) (cap := []) (args := [a0, a1]) Go.Proofs.Try.func114 (by kernel_rfl) rfl (calls_of_denF (args := [a0, a1]) (h := (.s none .n (.s none .n (.s none (.bl (.s none .n (.c (.s none .n .n) (.s none .n (.c (.s none .n .n) (.s none .n (.c (.s none .n .n) .n))))))) (.s none .n (.s none (.s none .n (.bl (.lp [5, 31] (.s none .n (.s none (.c .n .n) (.s none (.bl (.s none .n (.s none (.s none .n (.c (.s none .n .n) .n)) .n))) .n)))))) (.s none .n .n))))))) mixed Go.Proofs.Try.func114 rfl (by kernel_rfl) (Eq.mp (by kernel_rfl) h))
/-- (leat/schema.array).put: function 115. -/
def W.schema_array_put (Pn : PK) (K : Value → WP) (a0 a1 a2 : Value) : WP :=
  op PR Pn (S.box 117 a0) fun x3 =>
  op PR Pn (S.box 29 a2) fun x5 =>
  op PR Pn (S.fa 29 x5 4) fun x11 =>
  op PR Pn (S.load 27 x11) fun x12 =>
  op PR Pn (S.bi .len #[27] 3 [false] [x12]) fun x13 =>
  op PR Pn (S.conv 3 21 x13) fun x14 =>
  op PR Pn (S.fn F.cursor_Writer_I32 [a1, x14]) fun x15 =>
  op PR Pn (S.fa 29 x5 4) fun x16 =>
  op PR Pn (S.load 27 x16) fun x17 =>
  op PR Pn (S.bi .len #[27] 3 [false] [x17]) fun x18 =>
  L3 (.int .i64 0) x15 (.int .i64 0) (fun x6 x7 x19 xk =>
    op PR Pn (S.bin .lss 3 (.tmp 19) (.tmp 18) x19 x18) fun x20 =>
    ite' x20
    (op PR Pn (S.ia 27 x17 x19) fun x21 =>
      op PR Pn (S.load 29 x21) fun x22 =>
      op PR Pn (S.alloc 29) fun x9 =>
      op PR Pn (S.store 29 x9 x22) fun _ =>
      op PR Pn (S.bin .neq 32 (.tmp 23) (.const (.int .i64 0)) x7 (.int .i64 0)) fun x24 =>
      ite' x24
      (K x7)
      (op PR Pn (S.fa 117 x3 0) fun x26 =>
        op PR Pn (S.load 93 x26) fun x27 =>
        op PR Pn (S.load 29 x9) fun x29 =>
        op PR Pn (S.invoke x27 "leat/schema.put" [a1, x29]) fun x30 =>
        op PR Pn (S.bin .add 3 (.tmp 19) (.const (.int .i64 1)) x19 (.int .i64 1)) fun x31 =>
        xk x6 x30 x31))
    (K x7))
theorem enter.schema_array_put {Pn : PK} {K : Value → WP} {a0 a1 a2 : Value} {w : World} (h : W.schema_array_put Pn K a0 a1 a2 w) : op PR Pn (S.fn F.schema_array_put [a0, a1, a2]) K w :=
  op_call (first := []) (cap := []) (args := [a0, a1, a2]) Go.Proofs.Try.func115 (by kernel_rfl) rfl (calls_of_denF (args := [a0, a1, a2]) (h := (.s none .n (.s none .n (.s none (.s none .n (.bl (.lp [6, 7, 19] (.s none .n (.s none (.c .n .n) (.s none (.bl (.s none .n (.s none (.s none .n (.c (.s none .n .n) .n)) .n))) .n)))))) (.s none .n .n))))) mixed Go.Proofs.Try.func115 rfl (by kernel_rfl) (Eq.mp (by kernel_rfl) h))
/-- (leat/schema.number).check: function 116. -/
def W.schema_number_check (Pn : PK) (K : Value → WP) (a0 a1 : Value) : WP :=
  op PR Pn (S.box 118 a0) fun x2 =>
  op PR Pn (S.box 29 a1) fun x3 =>
  op PR Pn (S.load 29 x3) fun x6 =>
  op PR Pn (S.fa 118 x2 0) fun x7 =>
  op PR Pn (S.load 3 x7) fun x8 =>
  op PR Pn (S.fn F.schema_plain [x6, x8, (.bool true), (.bool false), (.bool false), (.bool false)]) fun x9 =>
  op PR Pn (S.un .not x9) fun x10 =>
  ite' x10
  (K (.int .i64 101))
  (J1 (fun x5 =>
      op PR Pn (S.un .not x5) fun x41 =>
      ite' x41
      (K (.int .i64 102))
      (K (.int .i64 0)))
    (fun xk =>
      op PR Pn (S.fa 118 x2 0) fun x11 =>
      op PR Pn (S.load 3 x11) fun x12 =>
      op PR Pn (S.bin .eql 3 (.tmp 12) (.const (.int .i64 1)) x12 (.int .i64 1)) fun x14 =>
      ite' x14
      (op PR Pn (S.fa 29 x3 1) fun x15 =>
        op PR Pn (S.load 2 x15) fun x16 =>
        op PR Pn (S.fa 29 x3 1) fun x17 =>
        op PR Pn (S.load 2 x17) fun x18 =>
        op PR Pn (S.conv 2 151 x18) fun x19 =>
        op PR Pn (S.conv 151 2 x19) fun x20 =>
        op PR Pn (S.bin .eql 2 (.tmp 16) (.tmp 20) x16 x20) fun x21 =>
        xk x21)
      (op PR Pn (S.bin .eql 3 (.tmp 12) (.const (.int .i64 2)) x12 (.int .i64 2)) fun x23 =>
        ite' x23
        (op PR Pn (S.fa 29 x3 1) fun x24 =>
          op PR Pn (S.load 2 x24) fun x25 =>
          op PR Pn (S.fa 29 x3 1) fun x26 =>
          op PR Pn (S.load 2 x26) fun x27 =>
          op PR Pn (S.conv 2 50 x27) fun x28 =>
          op PR Pn (S.conv 50 2 x28) fun x29 =>
          op PR Pn (S.bin .eql 2 (.tmp 25) (.tmp 29) x25 x29) fun x30 =>
          xk x30)
        (op PR Pn (S.bin .eql 3 (.tmp 12) (.const (.int .i64 3)) x12 (.int .i64 3)) fun x32 =>
          ite' x32
          (op PR Pn (S.fa 29 x3 1) fun x33 =>
            op PR Pn (S.load 2 x33) fun x34 =>
            op PR Pn (S.fa 29 x3 1) fun x35 =>
            op PR Pn (S.load 2 x35) fun x36 =>
            op PR Pn (S.conv 2 21 x36) fun x37 =>
            op PR Pn (S.conv 21 2 x37) fun x38 =>
            op PR Pn (S.bin .eql 2 (.tmp 34) (.tmp 38) x34 x38) fun x39 =>
            xk x39)
          (xk (.bool true))))))
theorem enter.schema_number_check {Pn : PK} {K : Value → WP} {a0 a1 : Value} {w : World} (h : W.schema_number_check Pn K a0 a1 w) : op PR Pn (S.fn F.schema_number_check [a0, a1]) K w :=
  op_call (first := []) (cap := []) (args := [a0, a1]) Go.Proofs.Try.func116 (by kernel_rfl) rfl (calls_of_denF (args := [a0, a1]) (h := (.s none .n (.s none (.s none .n (.c (.s none .n .n) .n)) (.s none .n (.s (some [5]) (.s none .n (.bl (.s none .n (.c .n (.s none .n (.c .n (.s none .n (.c .n .n)))))))) (.s none (.s none .n (.c (.s none .n .n) .n)) (.s none .n .n))))))) mixed Go.Proofs.Try.func116 rfl (by kernel_rfl) (Eq.mp (by kernel_rfl) h))
/-- (leat/schema.number).get: function 117. -/
def W.schema_number_get (Pn : PK) (K : Value → WP) (a0 a1 : Value) : WP :=
  op PR Pn (S.box 118 a0) fun x2 =>
  op PR Pn (S.alloc 29) fun x4 =>
  op PR Pn (S.fa 118 x2 0) fun x11 =>
  op PR Pn (S.load 3 x11) fun x12 =>
  op PR Pn (S.build 29 [(0, x12)]) fun x13 =>
  op PR Pn (S.alloc 29) fun x6 =>
  op PR Pn (S.store 29 x6 x13) fun _ =>
  J1 (fun x7 =>
    op PR Pn (S.load 29 x6) fun x52 =>
    op PR Pn (S.store 29 x4 x52) fun _ =>
    ldR PR 29 x4 fun xr => K (.tuple #[xr, x7]))
  (fun xk =>
    op PR Pn (S.fa 118 x2 0) fun x14 =>
    op PR Pn (S.load 3 x14) fun x15 =>
    op PR Pn (S.bin .eql 3 (.tmp 15) (.const (.int .i64 1)) x15 (.int .i64 1)) fun x23 =>
    ite' x23
    (op PR Pn (S.fn F.cursor_Reader_I8 [a1]) fun x26 =>
      op PR Pn (S.ext x26 0) fun x27 =>
      op PR Pn (S.ext x26 1) fun x28 =>
      op PR Pn (S.conv 151 2 x27) fun x30 =>
      op PR Pn (S.fa 29 x6 1) fun x31 =>
      op PR Pn (S.store 2 x31 x30) fun _ =>
      xk x28)
    (op PR Pn (S.bin .eql 3 (.tmp 15) (.const (.int .i64 2)) x15 (.int .i64 2)) fun x33 =>
      ite' x33
      (op PR Pn (S.fn F.cursor_Reader_I16 [a1]) fun x36 =>
        op PR Pn (S.ext x36 0) fun x37 =>
        op PR Pn (S.ext x36 1) fun x38 =>
        op PR Pn (S.conv 50 2 x37) fun x40 =>
        op PR Pn (S.fa 29 x6 1) fun x41 =>
        op PR Pn (S.store 2 x41 x40) fun _ =>
        xk x38)
      (op PR Pn (S.bin .eql 3 (.tmp 15) (.const (.int .i64 3)) x15 (.int .i64 3)) fun x43 =>
        ite' x43
        (op PR Pn (S.fn F.cursor_Reader_I32 [a1]) fun x46 =>
          op PR Pn (S.ext x46 0) fun x47 =>
          op PR Pn (S.ext x46 1) fun x48 =>
          op PR Pn (S.conv 21 2 x47) fun x50 =>
          op PR Pn (S.fa 29 x6 1) fun x51 =>
          op PR Pn (S.store 2 x51 x50) fun _ =>
          xk x48)
        (op PR Pn (S.fn F.cursor_Reader_I64 [a1]) fun x18 =>
          op PR Pn (S.ext x18 0) fun x19 =>
          op PR Pn (S.ext x18 1) fun x20 =>
          op PR Pn (S.fa 29 x6 1) fun x21 =>
          op PR Pn (S.store 2 x21 x19) fun _ =>
          xk x20))))
theorem enter.schema_number_get {Pn : PK} {K : Value → WP} {a0 a1 : Value} {w : World} (h : W.schema_number_get Pn K a0 a1 w) : op PR Pn (S.fn F.schema_number_get [a0, a1]) K w :=
  op_call (first := []) (cap := []) (args := [a0, a1]) Go.Proofs.Try.func117 (by kernel_rfl) rfl (calls_of_denF (args := [a0, a1]) (h := (.s none .n (.s none .n (.s none .n (.s (some [7]) (.s none .n (.bl (.s none .n (.c (.s none .n (.s none .n .n)) (.s none .n (.c (.s none .n (.s none .n .n)) (.s none .n (.c (.s none .n (.s none .n .n)) .n)))))))) (.s none .n .n)))))) mixed Go.Proofs.Try.func117 rfl (by kernel_rfl) (Eq.mp (by kernel_rfl) h))
/-- (leat/schema.number).put: function 118. -/
def W.schema_number_put (Pn : PK) (K : Value → WP) (a0 a1 a2 : Value) : WP :=
  op PR Pn (S.box 118 a0) fun x3 =>
  op PR Pn (S.box 29 a2) fun x5 =>
  op PR Pn (S.fa 118 x3 0) fun x7 =>
  op PR Pn (S.load 3 x7) fun x8 =>
  op PR Pn (S.bin .eql 3 (.tmp 8) (.const (.int .i64 1)) x8 (.int .i64 1)) fun x10 =>
  ite' x10
  (op PR Pn (S.fa 29 x5 1) fun x12 =>
    op PR Pn (S.load 2 x12) fun x13 =>
    op PR Pn (S.conv 2 151 x13) fun x14 =>
    op PR Pn (S.fn F.cursor_Writer_I8 [a1, x14]) fun x15 =>
    K x15)
  (op PR Pn (S.bin .eql 3 (.tmp 8) (.const (.int .i64 2)) x8 (.int .i64 2)) fun x17 =>
    ite' x17
    (op PR Pn (S.fa 29 x5 1) fun x19 =>
      op PR Pn (S.load 2 x19) fun x20 =>
      op PR Pn (S.conv 2 50 x20) fun x21 =>
      op PR Pn (S.fn F.cursor_Writer_I16 [a1, x21]) fun x22 =>
      K x22)
    (op PR Pn (S.bin .eql 3 (.tmp 8) (.const (.int .i64 3)) x8 (.int .i64 3)) fun x24 =>
      ite' x24
      (op PR Pn (S.fa 29 x5 1) fun x26 =>
        op PR Pn (S.load 2 x26) fun x27 =>
        op PR Pn (S.conv 2 21 x27) fun x28 =>
        op PR Pn (S.fn F.cursor_Writer_I32 [a1, x28]) fun x29 =>
        K x29)
      (op PR Pn (S.fa 29 x5 1) fun x31 =>
        op PR Pn (S.load 2 x31) fun x32 =>
        op PR Pn (S.fn F.cursor_Writer_I64 [a1, x32]) fun x33 =>
        K x33)))
theorem enter.schema_number_put {Pn : PK} {K : Value → WP} {a0 a1 a2 : Value} {w : World} (h : W.schema_number_put Pn K a0 a1 a2 w) : op PR Pn (S.fn F.schema_number_put [a0, a1, a2]) K w :=
  op_call (first := []) (cap := []) (args := [a0, a1, a2]) Go.Proofs.Try.func118 (by kernel_rfl) rfl (calls_of_denF (args := [a0, a1, a2]) (h := (.s none .n (.s none (.s none .n (.bl (.s none .n (.c (.s none .n .n) (.s none .n (.c (.s none .n .n) (.s none .n (.c (.s none .n .n) .n)))))))) (.s none .n .n)))) mixed Go.Proofs.Try.func118 rfl (by kernel_rfl) (Eq.mp (by kernel_rfl) h))
/-- (*leat/cursor.Reader).I8: function 119. -/
def W.cursor_Reader_I8 (Pn : PK) (K : Value → WP) (a0 : Value) : WP :=
  op PR Pn (S.fn F.cursor_Reader_number [a0, (.int .i64 1)]) fun x8 =>
  op PR Pn (S.ext x8 0) fun x9 =>
  op PR Pn (S.ext x8 1) fun x10 =>
  op PR Pn (S.conv 142 151 x9) fun x12 =>
  K (.tuple #[x12, x10])
theorem enter.cursor_Reader_I8 {Pn : PK} {K : Value → WP} {a0 : Value} {w : World} (h : W.cursor_Reader_I8 Pn K a0 w) : op PR Pn (S.fn F.cursor_Reader_I8 [a0]) K w :=
  op_call (first := []) (cap := []) (args := [a0]) Go.Proofs.Try.func119 (by kernel_rfl) rfl (calls_of_denF (args := [a0]) (h := (.s none .n (.s none .n (.s none .n .n)))) mixed Go.Proofs.Try.func119 rfl (by kernel_rfl) (Eq.mp (by kernel_rfl) h))
/-- (*leat/cursor.Reader).I64: function 120. -/
def W.cursor_Reader_I64 (Pn : PK) (K : Value → WP) (a0 : Value) : WP :=
  op PR Pn (S.fn F.cursor_Reader_number [a0, (.int .i64 8)]) fun x8 =>
  op PR Pn (S.ext x8 0) fun x9 =>
  op PR Pn (S.ext x8 1) fun x10 =>
  op PR Pn (S.conv 142 2 x9) fun x12 =>
  K (.tuple #[x12, x10])
theorem enter.cursor_Reader_I64 {Pn : PK} {K : Value → WP} {a0 : Value} {w : World} (h : W.cursor_Reader_I64 Pn K a0 w) : op PR Pn (S.fn F.cursor_Reader_I64 [a0]) K w :=
  op_call (first := []) (cap := []) (args := [a0]) Go.Proofs.Try.func120 (by kernel_rfl) rfl (calls_of_denF (args := [a0]) (h := (.s none .n (.s none .n (.s none .n .n)))) mixed Go.Proofs.Try.func120 rfl (by kernel_rfl) (Eq.mp (by kernel_rfl) h))
/-- (*leat/cursor.Writer).I8: function 121. -/
def W.cursor_Writer_I8 (Pn : PK) (K : Value → WP) (a0 a1 : Value) : WP :=
  op PR Pn (S.conv 151 142 a1) fun x7 =>
  op PR Pn (S.fn F.cursor_Writer_number [a0, x7, (.int .i64 1)]) fun x8 =>
  K x8
theorem enter.cursor_Writer_I8 {Pn : PK} {K : Value → WP} {a0 a1 : Value} {w : World} (h : W.cursor_Writer_I8 Pn K a0 a1 w) : op PR Pn (S.fn F.cursor_Writer_I8 [a0, a1]) K w :=
  op_call (first := []) (cap := []) (args := [a0, a1]) Go.Proofs.Try.func121 (by kernel_rfl) rfl (calls_of_denF (args := [a0, a1]) (h := (.s none .n (.s none .n .n))) mixed Go.Proofs.Try.func121 rfl (by kernel_rfl) (Eq.mp (by kernel_rfl) h))
/-- (*leat/cursor.Writer).I64: function 122. -/
def W.cursor_Writer_I64 (Pn : PK) (K : Value → WP) (a0 a1 : Value) : WP :=
  op PR Pn (S.conv 2 142 a1) fun x7 =>
  op PR Pn (S.fn F.cursor_Writer_number [a0, x7, (.int .i64 8)]) fun x8 =>
  K x8
theorem enter.cursor_Writer_I64 {Pn : PK} {K : Value → WP} {a0 a1 : Value} {w : World} (h : W.cursor_Writer_I64 Pn K a0 a1 w) : op PR Pn (S.fn F.cursor_Writer_I64 [a0, a1]) K w :=
  op_call (first := []) (cap := []) (args := [a0, a1]) Go.Proofs.Try.func122 (by kernel_rfl) rfl (calls_of_denF (args := [a0, a1]) (h := (.s none .n (.s none .n .n))) mixed Go.Proofs.Try.func122 rfl (by kernel_rfl) (Eq.mp (by kernel_rfl) h))
end Go.Lt
