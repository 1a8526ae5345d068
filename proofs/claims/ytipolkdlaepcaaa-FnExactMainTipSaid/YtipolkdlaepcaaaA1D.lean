/- Part of the proof of FnExactMainTip: no condition of its own. -/
import Derived.Test.YtipolkdlaepcaaaAb3
set_option linter.unusedVariables false
set_option linter.unusedSimpArgs false
open Go
namespace Go.Proofs.Ytipolkdlaepcaaa.Ab
structure G48 where
  mk ::
  Turn : Int
  Side : Int
  Seal : Int
def g48 (x : G48) : D := .agg [.int .i64 x.Turn, .int .i64 x.Side, .int .i64 x.Seal]
structure G46 where
  mk ::
  Turn : Int
  Side : Int
  Seal : Int
def g46 (x : G46) : D := .agg [.int .i64 x.Turn, .int .i64 x.Side, .int .i64 x.Seal]
structure G55 where
  mk ::
  Parent : Int
  Turn : Int
  Hash : Int
def g55 (x : G55) : D := .agg [.int .i64 x.Parent, .int .i64 x.Turn, .int .i64 x.Hash]
structure G53 where
  mk ::
  Parent : Int
  Turn : Int
  Hash : Int
def g53 (x : G53) : D := .agg [.int .i64 x.Parent, .int .i64 x.Turn, .int .i64 x.Hash]
/-! loop example/g00886/laws szMailS -/
noncomputable def D9 (a0 : (List G48)) (a1 : Int) : Option (Int) :=
  if (IntKind.wrap .i64 (a1 - ((List.length a0 : Nat) : Int))) < 0 then
    some (-1)
  else
    some (IntKind.wrap .i64 (a1 - ((List.length a0 : Nat) : Int)))
/-! loop example/g00886/laws toMail -/
noncomputable def D30 (a0 : G48) : Option (G46) :=
  some (G46.mk a0.Turn a0.Side a0.Seal)
/-! loop example/g00886/laws toMailS -/
inductive S11 where
  | h1 (va0 : (List G48)) (i1 : Int) (l2 : (List G46))
noncomputable def B11 : S11 → Option (S11 ⊕ ((List G46)))
  | .h1 va0 i1 l2 =>
    if i1 < ((List.length va0 : Nat) : Int) then
      if 0 ≤ i1 then
        Option.bind (va0[(Int.toNat i1)]?) fun x3 =>
        Option.bind (D30 x3) fun r4 =>
        if 0 ≤ i1 then
          Option.bind (l2[(Int.toNat i1)]?) fun x6 =>
          some (.inl (.h1 va0 (IntKind.wrap .i64 (i1 + 1)) (List.set l2 (Int.toNat i1) r4)))
        else none
      else none
    else
      some (.inr l2)
noncomputable def D11 (a0 : (List G48)) : Option ((List G46)) :=
  if 0 ≤ ((List.length a0 : Nat) : Int) then
    if Int.toNat ((List.length a0 : Nat) : Int) * 24 ≤ 140737488355328 then
      loop B11 (.h1 a0 0 (List.replicate (Int.toNat ((List.length a0 : Nat) : Int)) (G46.mk 0 0 0)))
    else none
  else none
/-! loop example/g00886/spec l1In -/
noncomputable def D51 (a0 : Int) (a1 : Int) (a2 : Int) : Option (Bool) :=
  if a0 ≥ a1 then
    some (decide (a0 ≤ a2))
  else
    some false
/-! loop example/g00886/spec dSeed -/
noncomputable def D48 (a0 : Int) : Option (Bool) :=
  Option.bind (D51 a0 0 4611686016279904236) fun r1 =>
  some r1
/-! loop example/g00886/spec nKey -/
noncomputable def D52 (a0 : G46) : Option (Int) :=
  some (IntKind.wrap .i64 ((IntKind.wrap .i64 (2 * a0.Turn)) + a0.Side))
/-! loop example/g00886/spec nMails -/
inductive S29 where
  | h1 (l0 : (List G46)) (t1 : (List G46)) (t2 : Int) (t3 : Int)
noncomputable def B29 : S29 → Option (S29 ⊕ (Bool))
  | .h1 l0 t1 t2 t3 =>
    if t3 < t2 then
      if 0 ≤ t3 then
        Option.bind (t1[(Int.toNat t3)]?) fun x3 =>
        Option.bind (D51 x3.Turn 0 30) fun r4 =>
        if r4 = true then
          Option.bind (D51 x3.Side 0 1) fun r6 =>
          if r6 = true then
            Option.bind (D48 x3.Seal) fun r8 =>
            if r8 = true then
              if t3 > 0 then
                if 0 ≤ (IntKind.wrap .i64 (t3 - 1)) then
                  Option.bind (l0[(Int.toNat (IntKind.wrap .i64 (t3 - 1)))]?) fun x12 =>
                  Option.bind (D52 x12) fun r13 =>
                  Option.bind (D52 x3) fun r14 =>
                  if r13 ≥ r14 then
                    some (.inr false)
                  else
                    some (.inl (.h1 l0 t1 t2 (IntKind.wrap .i64 (t3 + 1))))
                else none
              else
                some (.inl (.h1 l0 t1 t2 (IntKind.wrap .i64 (t3 + 1))))
            else
              some (.inr false)
          else
            some (.inr false)
        else
          some (.inr false)
      else none
    else
      some (.inr (decide (((List.length l0 : Nat) : Int) ≤ 20)))
noncomputable def D29 (a0 : (List G46)) : Option (Bool) :=
  loop B29 (.h1 a0 a0 ((List.length a0 : Nat) : Int) 0)
/-! loop example/g00886/spec IsMailbox -/
noncomputable def D10 (a0 : (List G46)) : Option (Bool) :=
  Option.bind (D29 a0) fun r1 =>
  some r1
/-! loop example/g00886/impl inRange -/
noncomputable def D38 (a0 : Int) (a1 : Int) (a2 : Int) : Option (Bool) :=
  if a1 ≤ a0 then
    some (decide (a0 ≤ a2))
  else
    some false
/-! loop example/g00886/impl isTurn -/
noncomputable def D31 (a0 : Int) : Option (Bool) :=
  Option.bind (D38 a0 0 30) fun r1 =>
  some r1
/-! loop example/g00886/impl isSide -/
noncomputable def D32 (a0 : Int) : Option (Bool) :=
  Option.bind (D38 a0 0 1) fun r1 =>
  some r1
/-! loop example/g00886/impl isSeed -/
noncomputable def D33 (a0 : Int) : Option (Bool) :=
  Option.bind (D38 a0 0 4611686016279904236) fun r1 =>
  some r1
/-! loop example/g00886/impl compareMails -/
noncomputable def D34 (a0 : G46) (a1 : G46) : Option (Int) :=
  if (a0.Turn : Int) = a1.Turn then
    some (IntKind.wrap .i64 (a0.Side - a1.Side))
  else
    some (IntKind.wrap .i64 (a0.Turn - a1.Turn))
/-! loop example/g00886/impl IsMailbox -/
inductive S12 where
  | h1 (l0 : (List G46)) (t1 : (List G46)) (t2 : Int) (t3 : Int)
noncomputable def B12 : S12 → Option (S12 ⊕ (Bool))
  | .h1 l0 t1 t2 t3 =>
    if t3 < t2 then
      if 0 ≤ t3 then
        Option.bind (t1[(Int.toNat t3)]?) fun x3 =>
        Option.bind (D31 x3.Turn) fun r4 =>
        if r4 = true then
          Option.bind (D32 x3.Side) fun r6 =>
          if r6 = true then
            Option.bind (D33 x3.Seal) fun r8 =>
            if r8 = true then
              if t3 > 0 then
                if 0 ≤ (IntKind.wrap .i64 (t3 - 1)) then
                  Option.bind (l0[(Int.toNat (IntKind.wrap .i64 (t3 - 1)))]?) fun x12 =>
                  Option.bind (D34 x12 x3) fun r13 =>
                  if r13 ≥ 0 then
                    some (.inr false)
                  else
                    some (.inl (.h1 l0 t1 t2 (IntKind.wrap .i64 (t3 + 1))))
                else none
              else
                some (.inl (.h1 l0 t1 t2 (IntKind.wrap .i64 (t3 + 1))))
            else
              some (.inr false)
          else
            some (.inr false)
        else
          some (.inr false)
      else none
    else
      some (.inr true)
noncomputable def D12 (a0 : (List G46)) : Option (Bool) :=
  if ((List.length a0 : Nat) : Int) > 20 then
    some false
  else
    loop B12 (.h1 a0 a0 ((List.length a0 : Nat) : Int) 0)
/-! loop example/g00886/laws eqMail -/
noncomputable def D35 (a0 : G46) (a1 : G46) : Option (Bool) :=
  if (a0.Turn : Int) = a1.Turn then
    if (a0.Side : Int) = a1.Side then
      if (a0.Seal : Int) = a1.Seal then
        some true
      else
        some false
    else
      some false
  else
    some false
/-! loop example/g00886/laws eqMailS -/
inductive S13 where
  | h1 (va0 : (List G46)) (b1 : (List G46)) (i2 : Int)
noncomputable def B13 : S13 → Option (S13 ⊕ (Bool))
  | .h1 va0 b1 i2 =>
    if i2 < ((List.length va0 : Nat) : Int) then
      if 0 ≤ i2 then
        Option.bind (va0[(Int.toNat i2)]?) fun x3 =>
        if 0 ≤ i2 then
          Option.bind (b1[(Int.toNat i2)]?) fun x5 =>
          Option.bind (D35 x3 x5) fun r6 =>
          if r6 = true then
            some (.inl (.h1 va0 b1 (IntKind.wrap .i64 (i2 + 1))))
          else
            some (.inr false)
        else none
      else none
    else
      some (.inr true)
noncomputable def D13 (a0 : (List G46)) (a1 : (List G46)) : Option (Bool) :=
  if (((List.length a0 : Nat) : Int) : Int) = ((List.length a1 : Nat) : Int) then
    loop B13 (.h1 a0 a1 0)
  else
    some false
/-! loop example/g00886/laws FnExactIsMailbox -/
noncomputable def D3 (a0 : (List G48)) : Option (Bool) :=
  Option.bind (D9 a0 1048576) fun r1 =>
  if r1 < 0 then
    some true
  else
    Option.bind (D11 a0) fun r3 =>
    Option.bind (D10 r3) fun r4 =>
    Option.bind (D11 a0) fun r5 =>
    Option.bind (D12 r5) fun r6 =>
    if (!(r6 == r4)) = true then
      some false
    else
      Option.bind (D11 a0) fun r8 =>
      Option.bind (D13 r5 r8) fun r9 =>
      if r9 = true then
        some true
      else
        some false
/-! loop example/g00886/laws szNodeS -/
noncomputable def D14 (a0 : (List G55)) (a1 : Int) : Option (Int) :=
  if (IntKind.wrap .i64 (a1 - ((List.length a0 : Nat) : Int))) < 0 then
    some (-1)
  else
    some (IntKind.wrap .i64 (a1 - ((List.length a0 : Nat) : Int)))
/-! loop example/g00886/laws toNode -/
noncomputable def D37 (a0 : G55) : Option (G53) :=
  some (G53.mk a0.Parent a0.Turn a0.Hash)
/-! loop example/g00886/laws toNodeS -/
inductive S16 where
  | h1 (va0 : (List G55)) (i1 : Int) (l2 : (List G53))
noncomputable def B16 : S16 → Option (S16 ⊕ ((List G53)))
  | .h1 va0 i1 l2 =>
    if i1 < ((List.length va0 : Nat) : Int) then
      if 0 ≤ i1 then
        Option.bind (va0[(Int.toNat i1)]?) fun x3 =>
        Option.bind (D37 x3) fun r4 =>
        if 0 ≤ i1 then
          Option.bind (l2[(Int.toNat i1)]?) fun x6 =>
          some (.inl (.h1 va0 (IntKind.wrap .i64 (i1 + 1)) (List.set l2 (Int.toNat i1) r4)))
        else none
      else none
    else
      some (.inr l2)
noncomputable def D16 (a0 : (List G55)) : Option ((List G53)) :=
  if 0 ≤ ((List.length a0 : Nat) : Int) then
    if Int.toNat ((List.length a0 : Nat) : Int) * 24 ≤ 140737488355328 then
      loop B16 (.h1 a0 0 (List.replicate (Int.toNat ((List.length a0 : Nat) : Int)) (G53.mk 0 0 0)))
    else none
  else none
/-! loop example/g00886/spec nChild -/
inductive S53 where
  | h1 (parent0 : Int) (vhash1 : Int) (t2 : (List G53)) (t3 : Int) (t4 : Int)
noncomputable def B53 : S53 → Option (S53 ⊕ (Int))
  | .h1 parent0 vhash1 t2 t3 t4 =>
    if t4 < t3 then
      if 0 ≤ t4 then
        Option.bind (t2[(Int.toNat t4)]?) fun x3 =>
        if (x3.Parent : Int) = parent0 then
          if (x3.Hash : Int) = vhash1 then
            some (.inr t4)
          else
            some (.inl (.h1 parent0 vhash1 t2 t3 (IntKind.wrap .i64 (t4 + 1))))
        else
          some (.inl (.h1 parent0 vhash1 t2 t3 (IntKind.wrap .i64 (t4 + 1))))
      else none
    else
      some (.inr (-1))
noncomputable def D53 (a0 : (List G53)) (a1 : Int) (a2 : Int) : Option (Int) :=
  loop B53 (.h1 a1 a2 a0 ((List.length a0 : Nat) : Int) 0)
/-! loop example/g00886/spec nGood -/
inductive S36 where
  | h1 (i0 : (List G53)) (t1 : (List G53)) (t2 : Int) (t3 : Int)
noncomputable def B36 : S36 → Option (S36 ⊕ (Bool))
  | .h1 i0 t1 t2 t3 =>
    if t3 < t2 then
      if 0 ≤ t3 then
        Option.bind (t1[(Int.toNat t3)]?) fun x3 =>
        Option.bind (D48 x3.Hash) fun r4 =>
        if r4 = true then
          if (t3 : Int) = 0 then
            if (x3.Parent : Int) = (-1) then
              if (x3.Turn : Int) = 0 then
                some (.inl (.h1 i0 t1 t2 (IntKind.wrap .i64 (t3 + 1))))
              else
                some (.inr false)
            else
              some (.inr false)
          else
            Option.bind (D51 x3.Parent 0 (IntKind.wrap .i64 (t3 - 1))) fun r7 =>
            if r7 = true then
              if 0 ≤ x3.Parent then
                Option.bind (i0[(Int.toNat x3.Parent)]?) fun x10 =>
                if (x3.Turn : Int) = (IntKind.wrap .i64 (x10.Turn + 1)) then
                  if x3.Turn > 30 then
                    some (.inr false)
                  else
                    if (0 : Int) ≤ t3 then
                      if (t3 : Int) ≤ ((List.length i0 : Nat) : Int) then
                        Option.bind (D53 (List.take ((Int.toNat t3) - 0) (List.drop 0 i0)) x3.Parent x3.Hash) fun r15 =>
                        if r15 ≥ 0 then
                          some (.inr false)
                        else
                          some (.inl (.h1 i0 t1 t2 (IntKind.wrap .i64 (t3 + 1))))
                      else none
                    else none
                else
                  some (.inr false)
              else none
            else
              some (.inr false)
        else
          some (.inr false)
      else none
    else
      some (.inr true)
noncomputable def D36 (a0 : (List G53)) : Option (Bool) :=
  Option.bind (D51 ((List.length a0 : Nat) : Int) 1 40) fun r1 =>
  if r1 = true then
    loop B36 (.h1 a0 a0 ((List.length a0 : Nat) : Int) 0)
  else
    some false
/-! loop example/g00886/spec IsTree -/
noncomputable def D15 (a0 : (List G53)) : Option (Bool) :=
  Option.bind (D36 a0) fun r1 =>
  some r1
/-! loop example/g00886/impl isIndex -/
noncomputable def D39 (a0 : Int) (a1 : Int) : Option (Bool) :=
  Option.bind (D38 a0 0 (IntKind.wrap .i64 (a1 - 1))) fun r1 =>
  some r1
/-! loop example/g00886/impl childWith 1 -/
noncomputable def D55 (a0 : G53) (a1 : Int) (a2 : Int) : Option (Bool) :=
  if (a0.Parent : Int) = a1 then
    some ((a0.Hash : Int) == a2)
  else
    some false
/-! slices IndexFunc   loop example/g00886/impl Node loop example/g00886/impl Node  -/
inductive S54f55qq where
  | h1 (s0 : (List G53)) (f1 : Int) (f2 : Int) (t3 : Int) (t4 : Int)
noncomputable def B54f55qq : S54f55qq → Option (S54f55qq ⊕ (Int))
  | .h1 s0 f1 f2 t3 t4 =>
    if t4 < t3 then
      if 0 ≤ t4 then
        Option.bind (s0[(Int.toNat t4)]?) fun x3 =>
        Option.bind (D55 x3 f1 f2) fun r4 =>
        if r4 = true then
          some (.inr t4)
        else
          some (.inl (.h1 s0 f1 f2 t3 (IntKind.wrap .i64 (t4 + 1))))
      else none
    else
      some (.inr (-1))
noncomputable def D54f55qq (a0 : (List G53)) (a100 : Int) (a101 : Int) : Option (Int) :=
  loop B54f55qq (.h1 a0 a100 a101 ((List.length a0 : Nat) : Int) 0)
/-! loop example/g00886/impl childWith -/
noncomputable def D40 (a0 : (List G53)) (a1 : Int) (a2 : Int) : Option (Int) :=
  Option.bind (D54f55qq a0 a1 a2) fun r1 =>
  some r1
/-! loop example/g00886/impl IsTree -/
inductive S17 where
  | h1 (i0 : (List G53)) (t1 : (List G53)) (t2 : Int) (t3 : Int)
noncomputable def B17 : S17 → Option (S17 ⊕ (Bool))
  | .h1 i0 t1 t2 t3 =>
    if t3 < t2 then
      if 0 ≤ t3 then
        Option.bind (t1[(Int.toNat t3)]?) fun x3 =>
        Option.bind (D33 x3.Hash) fun r4 =>
        if r4 = true then
          if t3 > 0 then
            Option.bind (D39 x3.Parent t3) fun r7 =>
            if r7 = true then
              if 0 ≤ x3.Parent then
                Option.bind (i0[(Int.toNat x3.Parent)]?) fun x10 =>
                if (x3.Turn : Int) = (IntKind.wrap .i64 (x10.Turn + 1)) then
                  Option.bind (D31 x3.Turn) fun r12 =>
                  if r12 = true then
                    Option.bind (D40 i0 x3.Parent x3.Hash) fun r14 =>
                    if (r14 : Int) = t3 then
                      some (.inl (.h1 i0 t1 t2 (IntKind.wrap .i64 (t3 + 1))))
                    else
                      some (.inr false)
                  else
                    some (.inr false)
                else
                  some (.inr false)
              else none
            else
              some (.inr false)
          else
            some (.inl (.h1 i0 t1 t2 (IntKind.wrap .i64 (t3 + 1))))
        else
          some (.inr false)
      else none
    else
      some (.inr true)
noncomputable def D17 (a0 : (List G53)) : Option (Bool) :=
  Option.bind (D38 ((List.length a0 : Nat) : Int) 1 40) fun r1 =>
  if r1 = true then
    Option.bind (a0[(Int.toNat 0)]?) fun x3 =>
    if (x3.Parent : Int) = (-1) then
      Option.bind (a0[(Int.toNat 0)]?) fun x5 =>
      if (x5.Turn : Int) = 0 then
        loop B17 (.h1 a0 a0 ((List.length a0 : Nat) : Int) 0)
      else
        some false
    else
      some false
  else
    some false
/-! loop example/g00886/laws eqNode -/
noncomputable def D41 (a0 : G53) (a1 : G53) : Option (Bool) :=
  if (a0.Parent : Int) = a1.Parent then
    if (a0.Turn : Int) = a1.Turn then
      if (a0.Hash : Int) = a1.Hash then
        some true
      else
        some false
    else
      some false
  else
    some false
/-! loop example/g00886/laws eqNodeS -/
inductive S18 where
  | h1 (va0 : (List G53)) (b1 : (List G53)) (i2 : Int)
noncomputable def B18 : S18 → Option (S18 ⊕ (Bool))
  | .h1 va0 b1 i2 =>
    if i2 < ((List.length va0 : Nat) : Int) then
      if 0 ≤ i2 then
        Option.bind (va0[(Int.toNat i2)]?) fun x3 =>
        if 0 ≤ i2 then
          Option.bind (b1[(Int.toNat i2)]?) fun x5 =>
          Option.bind (D41 x3 x5) fun r6 =>
          if r6 = true then
            some (.inl (.h1 va0 b1 (IntKind.wrap .i64 (i2 + 1))))
          else
            some (.inr false)
        else none
      else none
    else
      some (.inr true)
noncomputable def D18 (a0 : (List G53)) (a1 : (List G53)) : Option (Bool) :=
  if (((List.length a0 : Nat) : Int) : Int) = ((List.length a1 : Nat) : Int) then
    loop B18 (.h1 a0 a1 0)
  else
    some false
/-! loop example/g00886/laws FnExactIsTree -/
noncomputable def D4 (a0 : (List G55)) : Option (Bool) :=
  Option.bind (D14 a0 1048576) fun r1 =>
  if r1 < 0 then
    some true
  else
    Option.bind (D16 a0) fun r3 =>
    Option.bind (D15 r3) fun r4 =>
    Option.bind (D16 a0) fun r5 =>
    Option.bind (D17 r5) fun r6 =>
    if (!(r6 == r4)) = true then
      some false
    else
      Option.bind (D16 a0) fun r8 =>
      Option.bind (D18 r5 r8) fun r9 =>
      if r9 = true then
        some true
      else
        some false
/-! loop example/g00886/spec nFind -/
inductive S42 where
  | h1 (key0 : Int) (t1 : (List G46)) (t2 : Int) (t3 : Int)
noncomputable def B42 : S42 → Option (S42 ⊕ (Int))
  | .h1 key0 t1 t2 t3 =>
    if t3 < t2 then
      if 0 ≤ t3 then
        Option.bind (t1[(Int.toNat t3)]?) fun x3 =>
        Option.bind (D52 x3) fun r4 =>
        if (r4 : Int) = key0 then
          some (.inr t3)
        else
          some (.inl (.h1 key0 t1 t2 (IntKind.wrap .i64 (t3 + 1))))
      else none
    else
      some (.inr (-1))
noncomputable def D42 (a0 : (List G46)) (a1 : Int) : Option (Int) :=
  loop B42 (.h1 a1 a0 ((List.length a0 : Nat) : Int) 0)
/-! loop example/g00886/spec NextDue -/
inductive S19 where
  | h1 (l0 : (List G46)) (key1 : Int)
noncomputable def B19 : S19 → Option (S19 ⊕ (Int × Int × Bool))
  | .h1 l0 key1 =>
    Option.bind (D42 l0 key1) fun r1 =>
    if r1 ≥ 0 then
      some (.inl (.h1 l0 (IntKind.wrap .i64 (key1 + 1))))
    else
      some (.inr ((IntKind.wrap .i64 (Int.tdiv key1 2)), (Int.tmod key1 2), true))
noncomputable def D19 (a0 : (List G46)) : Option (Int × Int × Bool) :=
  Option.bind (D29 a0) fun r1 =>
  if r1 = true then
    loop B19 (.h1 a0 0)
  else
    some (0, 0, false)
/-! loop example/g00886/impl NextDue -/
inductive S20 where
  | h1 (turn0 : Int) (side1 : Int) (t2 : (List G46)) (t3 : Int) (t4 : Int)
noncomputable def B20 : S20 → Option (S20 ⊕ (Int × Int × Bool))
  | .h1 turn0 side1 t2 t3 t4 =>
    if t4 < t3 then
      if 0 ≤ t4 then
        Option.bind (t2[(Int.toNat t4)]?) fun x3 =>
        if (x3.Turn : Int) = turn0 then
          if (x3.Side : Int) = side1 then
            some (.inl (.h1 (IntKind.wrap .i64 (turn0 + side1)) (IntKind.wrap .i64 (1 - side1)) t2 t3 (IntKind.wrap .i64 (t4 + 1))))
          else
            some (.inr (turn0, side1, true))
        else
          some (.inr (turn0, side1, true))
      else none
    else
      some (.inr (turn0, side1, true))
noncomputable def D20 (a0 : (List G46)) : Option (Int × Int × Bool) :=
  Option.bind (D12 a0) fun r1 =>
  if r1 = true then
    loop B20 (.h1 0 0 a0 ((List.length a0 : Nat) : Int) 0)
  else
    some (0, 0, false)
/-! loop example/g00886/laws FnExactNextDue -/
noncomputable def D5 (a0 : (List G48)) : Option (Bool) :=
  Option.bind (D9 a0 1048576) fun r1 =>
  if r1 < 0 then
    some true
  else
    Option.bind (D11 a0) fun r3 =>
    Option.bind (D19 r3) fun r4 =>
    Option.bind (D11 a0) fun r5 =>
    Option.bind (D20 r5) fun r6 =>
    if (r6.1 : Int) = r4.1 then
      if (r6.2.1 : Int) = r4.2.1 then
        if (!(r6.2.2 == r4.2.2)) = true then
          some false
        else
          Option.bind (D11 a0) fun r10 =>
          Option.bind (D13 r5 r10) fun r11 =>
          if r11 = true then
            some true
          else
            some false
      else
        some false
    else
      some false
/-! loop example/g00886/spec nNode -/
noncomputable def D43 (a0 : (List G53)) (a1 : Int) : Option (Bool) :=
  Option.bind (D36 a0) fun r1 =>
  if r1 = true then
    Option.bind (D51 a1 0 (IntKind.wrap .i64 (((List.length a0 : Nat) : Int) - 1))) fun r3 =>
    some r3
  else
    some false
/-! loop example/g00886/spec nLine -/
inductive S44 where
  | h1 (l0 : (List G53)) (i1 : Int)
  | h2 (l0 : (List G53)) (i1 : Int) (l2 : (List Int))
noncomputable def B44 : S44 → Option (S44 ⊕ ((List Int)))
  | .h1 l0 i1 =>
    if i1 ≥ 0 then
      if List.length [i1] * 8 ≤ 70368744177664 then
        if 0 ≤ i1 then
          Option.bind (l0[(Int.toNat i1)]?) fun x4 =>
          some (.inl (.h2 l0 x4.Parent [i1]))
        else none
      else none
    else
      some (.inr [])
  | .h2 l0 i1 l2 =>
    if i1 ≥ 0 then
      if List.length ([i1] ++ l2) * 8 ≤ 70368744177664 then
        if 0 ≤ i1 then
          Option.bind (l0[(Int.toNat i1)]?) fun x4 =>
          some (.inl (.h2 l0 x4.Parent ([i1] ++ l2)))
        else none
      else none
    else
      some (.inr l2)
noncomputable def D44 (a0 : (List G53)) (a1 : Int) : Option ((List Int)) :=
  loop B44 (.h1 a0 a1)
/-! loop example/g00886/spec ForkOf -/
inductive S21 where
  | h1 (last0 : Int) (n1 : Int) (l2 : (List Int)) (l3 : (List Int))
noncomputable def B21 : S21 → Option (S21 ⊕ (Int × Bool))
  | .h1 last0 n1 l2 l3 =>
    if n1 < ((List.length l2 : Nat) : Int) then
      if n1 < ((List.length l3 : Nat) : Int) then
        if 0 ≤ n1 then
          Option.bind (l2[(Int.toNat n1)]?) fun x4 =>
          if 0 ≤ n1 then
            Option.bind (l3[(Int.toNat n1)]?) fun x6 =>
            if (x4 : Int) = x6 then
              if 0 ≤ n1 then
                Option.bind (l2[(Int.toNat n1)]?) fun x9 =>
                some (.inl (.h1 x9 (IntKind.wrap .i64 (n1 + 1)) l2 l3))
              else none
            else
              some (.inr (last0, true))
          else none
        else none
      else
        some (.inr (last0, true))
    else
      some (.inr (last0, true))
noncomputable def D21 (a0 : (List G53)) (a1 : Int) (a2 : Int) : Option (Int × Bool) :=
  Option.bind (D43 a0 a1) fun r1 =>
  if r1 = true then
    Option.bind (D43 a0 a2) fun r3 =>
    if r3 = true then
      Option.bind (D44 a0 a1) fun r5 =>
      Option.bind (D44 a0 a2) fun r6 =>
      loop B21 (.h1 0 0 r5 r6)
    else
      some (0, false)
  else
    some (0, false)
/-! slices Reverse   int int  -/
inductive S56 where
  | h1 (i0 : Int) (j1 : Int) (l2 : (List Int))
noncomputable def B56 : S56 → Option (S56 ⊕ ((List Int)))
  | .h1 i0 j1 l2 =>
    if i0 < j1 then
      if 0 ≤ j1 then
        Option.bind (l2[(Int.toNat j1)]?) fun x3 =>
        if 0 ≤ i0 then
          Option.bind (l2[(Int.toNat i0)]?) fun x5 =>
          if 0 ≤ i0 then
            Option.bind (l2[(Int.toNat i0)]?) fun x7 =>
            if 0 ≤ j1 then
              Option.bind ((List.set l2 (Int.toNat i0) x3)[(Int.toNat j1)]?) fun x9 =>
              some (.inl (.h1 (IntKind.wrap .i64 (i0 + 1)) (IntKind.wrap .i64 (j1 - 1)) (List.set (List.set l2 (Int.toNat i0) x3) (Int.toNat j1) x5)))
            else none
          else none
        else none
      else none
    else
      some (.inr l2)
noncomputable def D56 (a0 : (List Int)) : Option ((List Int)) :=
  loop B56 (.h1 0 (IntKind.wrap .i64 (((List.length a0 : Nat) : Int) - 1)) a0)
/-! loop example/g00886/impl lineTo -/
inductive S45 where
  | h1 (l0 : (List G53)) (i1 : Int) (l2 : (List Int))
noncomputable def B45 : S45 → Option (S45 ⊕ ((List Int)))
  | .h1 l0 i1 l2 =>
    if i1 ≥ 0 then
      if List.length (l2 ++ [i1]) * 8 ≤ 70368744177664 then
        if 0 ≤ i1 then
          Option.bind (l0[(Int.toNat i1)]?) fun x4 =>
          some (.inl (.h1 l0 x4.Parent (l2 ++ [i1])))
        else none
      else none
    else
      Option.bind (D56 l2) fun r2 =>
      if List.length r2 = List.length l2 then
        some (.inr r2)
      else none
noncomputable def D45 (a0 : (List G53)) (a1 : Int) : Option ((List Int)) :=
  loop B45 (.h1 a0 a1 ([] : List Int))
/-! loop example/g00886/impl ForkOf -/
inductive S22 where
  | h1 (fork0 : Int) (n1 : Int) (l2 : (List Int)) (l3 : (List Int))
noncomputable def B22 : S22 → Option (S22 ⊕ (Int × Bool))
  | .h1 fork0 n1 l2 l3 =>
    if n1 < (if ((List.length l3 : Nat) : Int) < ((List.length l2 : Nat) : Int) then ((List.length l3 : Nat) : Int) else ((List.length l2 : Nat) : Int)) then
      if 0 ≤ n1 then
        Option.bind (l2[(Int.toNat n1)]?) fun x3 =>
        if 0 ≤ n1 then
          Option.bind (l3[(Int.toNat n1)]?) fun x5 =>
          if (x3 : Int) = x5 then
            if 0 ≤ n1 then
              Option.bind (l2[(Int.toNat n1)]?) fun x8 =>
              some (.inl (.h1 x8 (IntKind.wrap .i64 (n1 + 1)) l2 l3))
            else none
          else
            some (.inr (fork0, true))
        else none
      else none
    else
      some (.inr (fork0, true))
noncomputable def D22 (a0 : (List G53)) (a1 : Int) (a2 : Int) : Option (Int × Bool) :=
  Option.bind (D17 a0) fun r1 =>
  if r1 = true then
    Option.bind (D39 a1 ((List.length a0 : Nat) : Int)) fun r3 =>
    if r3 = true then
      Option.bind (D39 a2 ((List.length a0 : Nat) : Int)) fun r5 =>
      if r5 = true then
        Option.bind (D45 a0 a1) fun r7 =>
        Option.bind (D45 a0 a2) fun r8 =>
        loop B22 (.h1 0 0 r7 r8)
      else
        some (0, false)
    else
      some (0, false)
  else
    some (0, false)
/-! loop example/g00886/laws FnExactForkOf -/
noncomputable def D6 (a0 : (List G55)) (a1 : Int) (a2 : Int) : Option (Bool) :=
  Option.bind (D14 a0 1048576) fun r1 =>
  if r1 < 0 then
    some true
  else
    Option.bind (D16 a0) fun r3 =>
    Option.bind (D21 r3 a1 a2) fun r4 =>
    Option.bind (D16 a0) fun r5 =>
    Option.bind (D22 r5 a1 a2) fun r6 =>
    if (r6.1 : Int) = r4.1 then
      if (!(r6.2 == r4.2)) = true then
        some false
      else
        Option.bind (D16 a0) fun r9 =>
        Option.bind (D18 r5 r9) fun r10 =>
        if r10 = true then
          some true
        else
          some false
    else
      some false
/-! loop example/g00886/spec nTips -/
inductive S46 where
  | h1 (l0 : (List G53)) (t1 : Int) (t2 : Int)
  | h2 (l0 : (List G53)) (i1 : Int) (tip2 : Bool) (t3 : Int) (t4 : Int) (t5 : (List G53)) (t6 : Int) (t7 : Int)
  | h3 (l0 : (List G53)) (t1 : Int) (t2 : Int) (l3 : (List Int))
  | h4 (l0 : (List G53)) (i1 : Int) (tip2 : Bool) (t3 : Int) (t4 : Int) (t5 : (List G53)) (t6 : Int) (t7 : Int) (l8 : (List Int))
noncomputable def B46 : S46 → Option (S46 ⊕ ((List Int)))
  | .h1 l0 t1 t2 =>
    if t2 < t1 then
      some (.inl (.h2 l0 t2 true t1 t2 l0 ((List.length l0 : Nat) : Int) 0))
    else
      some (.inr [])
  | .h2 l0 i1 true t3 t4 t5 t6 t7 =>
    if t7 < t6 then
      if 0 ≤ t7 then
        Option.bind (t5[(Int.toNat t7)]?) fun x3 =>
        some (.inl (.h2 l0 i1 ((x3.Parent : Int) != i1) t3 t4 t5 t6 (IntKind.wrap .i64 (t7 + 1))))
      else none
    else
      if List.length [i1] * 8 ≤ 70368744177664 then
        some (.inl (.h3 l0 t3 (IntKind.wrap .i64 (t4 + 1)) [i1]))
      else none
  | .h2 l0 i1 false t3 t4 t5 t6 t7 =>
    if t7 < t6 then
      if 0 ≤ t7 then
        Option.bind (t5[(Int.toNat t7)]?) fun x3 =>
        some (.inl (.h2 l0 i1 false t3 t4 t5 t6 (IntKind.wrap .i64 (t7 + 1))))
      else none
    else
      some (.inl (.h1 l0 t3 (IntKind.wrap .i64 (t4 + 1))))
  | .h3 l0 t1 t2 l3 =>
    if t2 < t1 then
      some (.inl (.h4 l0 t2 true t1 t2 l0 ((List.length l0 : Nat) : Int) 0 l3))
    else
      some (.inr l3)
  | .h4 l0 i1 true t3 t4 t5 t6 t7 l8 =>
    if t7 < t6 then
      if 0 ≤ t7 then
        Option.bind (t5[(Int.toNat t7)]?) fun x3 =>
        some (.inl (.h4 l0 i1 ((x3.Parent : Int) != i1) t3 t4 t5 t6 (IntKind.wrap .i64 (t7 + 1)) l8))
      else none
    else
      if List.length (l8 ++ [i1]) * 8 ≤ 70368744177664 then
        some (.inl (.h3 l0 t3 (IntKind.wrap .i64 (t4 + 1)) (l8 ++ [i1])))
      else none
  | .h4 l0 i1 false t3 t4 t5 t6 t7 l8 =>
    if t7 < t6 then
      if 0 ≤ t7 then
        Option.bind (t5[(Int.toNat t7)]?) fun x3 =>
        some (.inl (.h4 l0 i1 false t3 t4 t5 t6 (IntKind.wrap .i64 (t7 + 1)) l8))
      else none
    else
      some (.inl (.h3 l0 t3 (IntKind.wrap .i64 (t4 + 1)) l8))
noncomputable def D46 (a0 : (List G53)) : Option ((List Int)) :=
  loop B46 (.h1 a0 ((List.length a0 : Nat) : Int) 0)
/-! loop example/g00886/spec MainTip -/
inductive S23 where
  | h1 (l0 : (List G53)) (best1 : Int) (t2 : Int) (t3 : Int) (l4 : (List Int))
noncomputable def B23 : S23 → Option (S23 ⊕ (Int × Bool))
  | .h1 l0 best1 t2 t3 l4 =>
    if t3 < t2 then
      if 0 ≤ t3 then
        Option.bind (l4[(Int.toNat t3)]?) fun x3 =>
        if best1 < 0 then
          some (.inl (.h1 l0 x3 t2 (IntKind.wrap .i64 (t3 + 1)) l4))
        else
          if 0 ≤ x3 then
            Option.bind (l0[(Int.toNat x3)]?) fun x6 =>
            if 0 ≤ best1 then
              Option.bind (l0[(Int.toNat best1)]?) fun x8 =>
              if x6.Turn > x8.Turn then
                some (.inl (.h1 l0 x3 t2 (IntKind.wrap .i64 (t3 + 1)) l4))
              else
                some (.inl (.h1 l0 best1 t2 (IntKind.wrap .i64 (t3 + 1)) l4))
            else none
          else none
      else none
    else
      some (.inr (best1, true))
noncomputable def D23 (a0 : (List G53)) : Option (Int × Bool) :=
  Option.bind (D36 a0) fun r1 =>
  if r1 = true then
    Option.bind (D46 a0) fun r3 =>
    loop B23 (.h1 a0 (-1) ((List.length r3 : Nat) : Int) 0 r3)
  else
    some (0, false)
/-! loop example/g00886/impl tipsOf 1 -/
noncomputable def D58 (a0 : G53) (a1 : Int) : Option (Bool) :=
  some ((a0.Parent : Int) == a1)
/-! slices IndexFunc   loop example/g00886/impl Node loop example/g00886/impl Node  -/
inductive S54f58q where
  | h1 (s0 : (List G53)) (f1 : Int) (t2 : Int) (t3 : Int)
noncomputable def B54f58q : S54f58q → Option (S54f58q ⊕ (Int))
  | .h1 s0 f1 t2 t3 =>
    if t3 < t2 then
      if 0 ≤ t3 then
        Option.bind (s0[(Int.toNat t3)]?) fun x3 =>
        Option.bind (D58 x3 f1) fun r4 =>
        if r4 = true then
          some (.inr t3)
        else
          some (.inl (.h1 s0 f1 t2 (IntKind.wrap .i64 (t3 + 1))))
      else none
    else
      some (.inr (-1))
noncomputable def D54f58q (a0 : (List G53)) (a100 : Int) : Option (Int) :=
  loop B54f58q (.h1 a0 a100 ((List.length a0 : Nat) : Int) 0)
/-! slices ContainsFunc   loop example/g00886/impl Node loop example/g00886/impl Node  -/
noncomputable def D57f58q (a0 : (List G53)) (a100 : Int) : Option (Bool) :=
  Option.bind (D54f58q a0 a100) fun r1 =>
  some (decide (r1 ≥ 0))
/-! loop example/g00886/impl tipsOf -/
inductive S47 where
  | h1 (l0 : (List G53)) (t1 : Int) (t2 : Int) (l3 : (List Int))
noncomputable def B47 : S47 → Option (S47 ⊕ ((List Int)))
  | .h1 l0 t1 t2 l3 =>
    if t2 < t1 then
      Option.bind (D57f58q l0 t2) fun r2 =>
      if r2 = true then
        some (.inl (.h1 l0 t1 (IntKind.wrap .i64 (t2 + 1)) l3))
      else
        if List.length (l3 ++ [t2]) * 8 ≤ 70368744177664 then
          some (.inl (.h1 l0 t1 (IntKind.wrap .i64 (t2 + 1)) (l3 ++ [t2])))
        else none
    else
      some (.inr l3)
noncomputable def D47 (a0 : (List G53)) : Option ((List Int)) :=
  loop B47 (.h1 a0 ((List.length a0 : Nat) : Int) 0 ([] : List Int))
/-! loop example/g00886/impl MainTip -/
inductive S24 where
  | h1 (l0 : (List G53)) (best1 : Int) (t2 : Int) (t3 : Int) (l4 : (List Int))
noncomputable def B24 : S24 → Option (S24 ⊕ (Int × Bool))
  | .h1 l0 best1 t2 t3 l4 =>
    if t3 < t2 then
      if 0 ≤ t3 then
        Option.bind (l4[(Int.toNat t3)]?) fun x3 =>
        if best1 < 0 then
          some (.inl (.h1 l0 x3 t2 (IntKind.wrap .i64 (t3 + 1)) l4))
        else
          if 0 ≤ x3 then
            Option.bind (l0[(Int.toNat x3)]?) fun x6 =>
            if 0 ≤ best1 then
              Option.bind (l0[(Int.toNat best1)]?) fun x8 =>
              if x6.Turn > x8.Turn then
                some (.inl (.h1 l0 x3 t2 (IntKind.wrap .i64 (t3 + 1)) l4))
              else
                some (.inl (.h1 l0 best1 t2 (IntKind.wrap .i64 (t3 + 1)) l4))
            else none
          else none
      else none
    else
      some (.inr (best1, true))
noncomputable def D24 (a0 : (List G53)) : Option (Int × Bool) :=
  Option.bind (D17 a0) fun r1 =>
  if r1 = true then
    Option.bind (D47 a0) fun r3 =>
    loop B24 (.h1 a0 (-1) ((List.length r3 : Nat) : Int) 0 r3)
  else
    some (0, false)
/-! loop example/g00886/laws FnExactMainTip -/
noncomputable def D7 (a0 : (List G55)) : Option (Bool) :=
  Option.bind (D14 a0 1048576) fun r1 =>
  if r1 < 0 then
    some true
  else
    Option.bind (D16 a0) fun r3 =>
    Option.bind (D23 r3) fun r4 =>
    Option.bind (D16 a0) fun r5 =>
    Option.bind (D24 r5) fun r6 =>
    if (r6.1 : Int) = r4.1 then
      if (!(r6.2 == r4.2)) = true then
        some false
      else
        Option.bind (D16 a0) fun r9 =>
        Option.bind (D18 r5 r9) fun r10 =>
        if r10 = true then
          some true
        else
          some false
    else
      some false
/-! loop example/g00886/spec nAdd -/
noncomputable def D49 (a0 : (List G53)) (a1 : Int) (a2 : Int) : Option ((List G53) × Int × Bool) :=
  Option.bind (D53 a0 a1 a2) fun r1 =>
  if r1 ≥ 0 then
    if List.length a0 * 24 ≤ 70368744177664 then
      some (a0, r1, true)
    else none
  else
    if (((List.length a0 : Nat) : Int) : Int) = 40 then
      some ([], 0, false)
    else
      if 0 ≤ a1 then
        Option.bind (a0[(Int.toNat a1)]?) fun x5 =>
        if (x5.Turn : Int) = 30 then
          some ([], 0, false)
        else
          if List.length a0 * 24 ≤ 70368744177664 then
            if 0 ≤ a1 then
              Option.bind (a0[(Int.toNat a1)]?) fun x9 =>
              if List.length (a0 ++ [(G53.mk a1 (IntKind.wrap .i64 (x9.Turn + 1)) a2)]) * 24 ≤ 70368744177664 then
                some ((a0 ++ [(G53.mk a1 (IntKind.wrap .i64 (x9.Turn + 1)) a2)]), ((List.length a0 : Nat) : Int), true)
              else none
            else none
          else none
      else none
/-! loop example/g00886/spec ChildOf -/
noncomputable def D25 (a0 : (List G53)) (a1 : Int) (a2 : Int) : Option ((List G53) × Int × Bool) :=
  Option.bind (D43 a0 a1) fun r1 =>
  if r1 = true then
    Option.bind (D48 a2) fun r3 =>
    if r3 = true then
      Option.bind (D49 a0 a1 a2) fun r5 =>
      some (r5.1, r5.2.1, r5.2.2)
    else
      some ([], 0, false)
  else
    some ([], 0, false)
/-! slices Clone -/
noncomputable def D59 (a0 : (List G53)) : Option (List G53) := if List.length a0 * 24 ≤ 70368744177664 then some a0 else none
/-! loop example/g00886/impl childOf -/
noncomputable def D50 (a0 : (List G53)) (a1 : Int) (a2 : Int) : Option ((List G53) × Int × Bool) :=
  Option.bind (D40 a0 a1 a2) fun r1 =>
  if r1 ≥ 0 then
    Option.bind (D59 a0) fun r3 =>
    some (r3, r1, true)
  else
    if (((List.length a0 : Nat) : Int) : Int) = 40 then
      some ([], 0, false)
    else
      if 0 ≤ a1 then
        Option.bind (a0[(Int.toNat a1)]?) fun x5 =>
        if (x5.Turn : Int) = 30 then
          some ([], 0, false)
        else
          Option.bind (D59 a0) fun r7 =>
          if 0 ≤ a1 then
            Option.bind (a0[(Int.toNat a1)]?) fun x9 =>
            if List.length (r7 ++ [(G53.mk a1 (IntKind.wrap .i64 (x9.Turn + 1)) a2)]) * 24 ≤ 70368744177664 then
              some ((r7 ++ [(G53.mk a1 (IntKind.wrap .i64 (x9.Turn + 1)) a2)]), ((List.length a0 : Nat) : Int), true)
            else none
          else none
      else none
/-! loop example/g00886/impl ChildOf -/
noncomputable def D26 (a0 : (List G53)) (a1 : Int) (a2 : Int) : Option ((List G53) × Int × Bool) :=
  Option.bind (D17 a0) fun r1 =>
  if r1 = true then
    Option.bind (D39 a1 ((List.length a0 : Nat) : Int)) fun r3 =>
    if r3 = true then
      Option.bind (D33 a2) fun r5 =>
      if r5 = true then
        Option.bind (D50 a0 a1 a2) fun r7 =>
        some (r7.1, r7.2.1, r7.2.2)
      else
        some ([], 0, false)
    else
      some ([], 0, false)
  else
    some ([], 0, false)
/-! loop example/g00886/laws markNodeS -/
inductive S27 where
  | h1 (k0 : Int) (i1 : Int) (l2 : (List G53))
noncomputable def B27 : S27 → Option (S27 ⊕ (Int × (List G53)))
  | .h1 k0 i1 l2 =>
    if i1 < ((List.length l2 : Nat) : Int) then
      if 0 ≤ i1 then
        Option.bind (l2[(Int.toNat i1)]?) fun x3 =>
        if 0 ≤ i1 then
          Option.bind ((List.set l2 (Int.toNat i1) (G53.mk k0 x3.Turn x3.Hash))[(Int.toNat i1)]?) fun x5 =>
          if 0 ≤ i1 then
            Option.bind ((List.set (List.set l2 (Int.toNat i1) (G53.mk k0 x3.Turn x3.Hash)) (Int.toNat i1) (G53.mk x5.Parent (IntKind.wrap .i64 (k0 + 1)) x5.Hash))[(Int.toNat i1)]?) fun x7 =>
            some (.inl (.h1 (IntKind.wrap .i64 ((IntKind.wrap .i64 ((IntKind.wrap .i64 (k0 + 1)) + 1)) + 1)) (IntKind.wrap .i64 (i1 + 1)) (List.set (List.set (List.set l2 (Int.toNat i1) (G53.mk k0 x3.Turn x3.Hash)) (Int.toNat i1) (G53.mk x5.Parent (IntKind.wrap .i64 (k0 + 1)) x5.Hash)) (Int.toNat i1) (G53.mk x7.Parent x7.Turn (IntKind.wrap .i64 ((IntKind.wrap .i64 (k0 + 1)) + 1))))))
          else none
        else none
      else none
    else
      some (.inr (k0, l2))
noncomputable def D27 (a0 : (List G53)) (a1 : Int) : Option (Int × (List G53)) :=
  loop B27 (.h1 a1 0 a0)
/-! loop example/g00886/laws heldNodeS -/
inductive S28 where
  | h1 (va0 : (List G53)) (k1 : Int) (i2 : Int)
noncomputable def B28 : S28 → Option (S28 ⊕ (Int))
  | .h1 va0 k1 i2 =>
    if i2 < ((List.length va0 : Nat) : Int) then
      if 0 ≤ i2 then
        Option.bind (va0[(Int.toNat i2)]?) fun x3 =>
        if (x3.Parent : Int) = k1 then
          if 0 ≤ i2 then
            Option.bind (va0[(Int.toNat i2)]?) fun x6 =>
            if (x6.Turn : Int) = (IntKind.wrap .i64 (k1 + 1)) then
              if 0 ≤ i2 then
                Option.bind (va0[(Int.toNat i2)]?) fun x9 =>
                if (x9.Hash : Int) = (IntKind.wrap .i64 ((IntKind.wrap .i64 (k1 + 1)) + 1)) then
                  some (.inl (.h1 va0 (IntKind.wrap .i64 ((IntKind.wrap .i64 ((IntKind.wrap .i64 (k1 + 1)) + 1)) + 1)) (IntKind.wrap .i64 (i2 + 1))))
                else
                  some (.inr (-1))
              else none
            else
              some (.inr (-1))
          else none
        else
          some (.inr (-1))
      else none
    else
      some (.inr k1)
noncomputable def D28 (a0 : (List G53)) (a1 : Int) : Option (Int) :=
  loop B28 (.h1 a0 a1 0)
/-! loop example/g00886/laws FnExactChildOf -/
noncomputable def D8 (a0 : (List G55)) (a1 : Int) (a2 : Int) : Option (Bool) :=
  Option.bind (D14 a0 1048576) fun r1 =>
  if r1 < 0 then
    some true
  else
    Option.bind (D16 a0) fun r3 =>
    Option.bind (D25 r3 a1 a2) fun r4 =>
    Option.bind (D16 a0) fun r5 =>
    Option.bind (D26 r5 a1 a2) fun r6 =>
    Option.bind (D18 r6.1 r4.1) fun r7 =>
    if r7 = true then
      if (r6.2.1 : Int) = r4.2.1 then
        if (!(r6.2.2 == r4.2.2)) = true then
          some false
        else
          Option.bind (D16 a0) fun r11 =>
          Option.bind (D18 r5 r11) fun r12 =>
          if r12 = true then
            Option.bind (D27 r5 1) fun r14 =>
            if List.length r14.2 = List.length r5 then
              if r14.1 < 0 then
                some false
              else
                Option.bind (D18 r6.1 r4.1) fun r17 =>
                if r17 = true then
                  if (r6.2.1 : Int) = r4.2.1 then
                    if (!(r6.2.2 == r4.2.2)) = true then
                      some false
                    else
                      Option.bind (D27 r6.1 1) fun r21 =>
                      if List.length r21.2 = List.length r6.1 then
                        Option.bind (D28 r21.2 1) fun r23 =>
                        if r23 < 0 then
                          some false
                        else
                          if (r23 : Int) = r21.1 then
                            Option.bind (D16 a0) fun r26 =>
                            Option.bind (D26 r26 a1 a2) fun r27 =>
                            Option.bind (D18 r27.1 r4.1) fun r28 =>
                            if r28 = true then
                              if (r27.2.1 : Int) = r4.2.1 then
                                if (!(r27.2.2 == r4.2.2)) = true then
                                  some false
                                else
                                  Option.bind (D28 r21.2 1) fun r32 =>
                                  if r32 < 0 then
                                    some false
                                  else
                                    if (r32 : Int) = r21.1 then
                                      some true
                                    else
                                      some false
                              else
                                some false
                            else
                              some false
                          else
                            some false
                      else none
                  else
                    some false
                else
                  some false
            else none
          else
            some false
      else
        some false
    else
      some false
end Go.Proofs.Ytipolkdlaepcaaa.Ab
