/- Functions, and what the code asks of them. -/
import Derived.KernelRfl
import Derived.Test.YtabnaedcnfkmiaaB30b84ef3
set_option linter.unusedVariables false
set_option linter.unusedSimpArgs false
/- interregnum/interregnumref01.TakeText -/
namespace Go.Abs
open Go
set_option linter.unusedVariables false
def f21.kills (a : ByteArray × Int × Int) : List Hint := []
def f21.cuts (a : ByteArray × Int × Int) : List (Nat × Σ β : Type, β → Tm) := []
def f21.af (a : ByteArray × Int × Int) : AF := AF.mk (.seq (.region [⟨(some 6), 0, .move, [.c (.str ByteArray.empty)], none⟩,
  ⟨(some 7), 1, .move, [.c (.int .i64 (0))], none⟩,
  ⟨(some 8), 2, .move, [.c (.int .i64 (0))], none⟩])
 (.seq (.seq (.region [⟨(some 12), 3, .move, [.t 2], none⟩,
  ⟨(some 13), 4, (.bin .lss), [.t 12, .c (.int .i64 (0))], none⟩])
 (.cond (.t 13) (.seq (.region [⟨(some 6), 5, .move, [.c (.str ByteArray.empty)], none⟩,
  ⟨(some 7), 6, .move, [.c (.int .i64 (0))], none⟩,
  ⟨(some 8), 7, .move, [.c (.int .i64 (1))], none⟩])
 (.ret)) (.skip)))
 (.seq (.region [⟨(some 15), 8, .move, [.t 0], none⟩,
  ⟨(some 16), 9, .move, [.t 1], none⟩,
  ⟨(some 17), 10, (.call false 19), [.t 15, .t 16], none⟩,
  ⟨(some 14), 14, .move, [.t 17], none⟩,
  ⟨(some 18), 15, (.extract 0), [.t 14], none⟩,
  ⟨(some 19), 16, (.extract 1), [.t 14], none⟩,
  ⟨(some 20), 17, (.extract 2), [.t 14], none⟩,
  ⟨(some 9), 18, .move, [.t 18], none⟩,
  ⟨(some 10), 19, .move, [.t 19], none⟩,
  ⟨(some 11), 20, .move, [.t 20], none⟩])
 (.seq (.seq (.region [⟨(some 21), 21, .move, [.t 11], none⟩,
  ⟨(some 22), 22, (.bin .neq), [.t 21, .c (.int .i64 (0))], none⟩])
 (.cond (.t 22) (.seq (.region [⟨(some 23), 23, .move, [.t 11], none⟩,
  ⟨(some 6), 24, .move, [.c (.str ByteArray.empty)], none⟩,
  ⟨(some 7), 25, .move, [.c (.int .i64 (0))], none⟩,
  ⟨(some 8), 26, .move, [.t 23], none⟩])
 (.ret)) (.skip)))
 (.seq (.seq (.region [⟨(some 24), 27, .move, [.t 9], none⟩,
  ⟨(some 25), 28, .move, [.t 2], none⟩,
  ⟨(some 26), 29, (.conv (.int .u64)), [.t 25], none⟩,
  ⟨(some 27), 30, (.bin .gtr), [.t 24, .t 26], none⟩])
 (.cond (.t 27) (.seq (.region [⟨(some 6), 31, .move, [.c (.str ByteArray.empty)], none⟩,
  ⟨(some 7), 32, .move, [.c (.int .i64 (0))], none⟩,
  ⟨(some 8), 33, .move, [.c (.int .i64 (4))], none⟩])
 (.ret)) (.skip)))
 (.seq (.seq (.region [⟨(some 28), 34, .move, [.t 0], none⟩,
  ⟨(some 29), 35, (.len true), [.t 28], none⟩,
  ⟨(some 30), 36, .move, [.t 10], none⟩,
  ⟨(some 31), 37, (.bin .sub), [.t 29, .t 30], none⟩,
  ⟨(some 32), 38, (.conv (.int .u64)), [.t 31], none⟩,
  ⟨(some 33), 39, .move, [.t 9], none⟩,
  ⟨(some 34), 40, (.bin .lss), [.t 32, .t 33], none⟩])
 (.cond (.t 34) (.seq (.region [⟨(some 6), 41, .move, [.c (.str ByteArray.empty)], none⟩,
  ⟨(some 7), 42, .move, [.c (.int .i64 (0))], none⟩,
  ⟨(some 8), 43, .move, [.c (.int .i64 (2))], none⟩])
 (.ret)) (.skip)))
 (.seq (.region [⟨(some 35), 44, .move, [.t 0], none⟩,
  ⟨(some 36), 45, .move, [.t 10], none⟩,
  ⟨(some 37), 46, .move, [.t 10], none⟩,
  ⟨(some 38), 47, .move, [.t 9], none⟩,
  ⟨(some 39), 48, (.conv (.int .i64)), [.t 38], none⟩,
  ⟨(some 40), 49, (.bin .add), [.t 37, .t 39], none⟩,
  ⟨(some 41), 50, (.sliceStr true true), [.t 35, .t 36, .t 40], none⟩,
  ⟨(some 42), 51, .move, [.t 10], none⟩,
  ⟨(some 43), 52, .move, [.t 9], none⟩,
  ⟨(some 44), 53, (.conv (.int .i64)), [.t 43], none⟩,
  ⟨(some 45), 54, (.bin .add), [.t 42, .t 44], none⟩,
  ⟨(some 6), 55, .move, [.t 41], none⟩,
  ⟨(some 7), 56, .move, [.t 45], none⟩,
  ⟨(some 8), 57, .move, [.c (.int .i64 (0))], none⟩])
 (.ret))))))))
  [.tmp 6, .tmp 7, .tmp 8] 0 43
def f21.env : Env := [(19, f19.C)]
def f21.tree (a : ByteArray × Int × Int) : Prop := Br (decide (a.2.2 < (0 : Int))) ((ByteArray.empty = ((takeText a).1)) ∧ ((0 : Int) = ((takeText a).2.1)) ∧ ((1 : Int) = ((takeText a).2.2)) ∧ True) (∃ c4 : ByteArray × Int, (a.1 = c4.1) ∧ (a.2.1 = c4.2) ∧ (take_pre c4) ∧ Br (((takeN c4).2.2) != (0 : Int)) ((ByteArray.empty = ((takeText a).1)) ∧ ((0 : Int) = ((takeText a).2.1)) ∧ (((takeN c4).2.2) = ((takeText a).2.2)) ∧ True) (Let (IntKind.u64.wrap a.2.2) (fun v8 : Int => Br (decide (v8 < ((takeN c4).1))) ((ByteArray.empty = ((takeText a).1)) ∧ ((0 : Int) = ((takeText a).2.1)) ∧ ((4 : Int) = ((takeText a).2.2)) ∧ True) (Let (IntKind.i64.wrap ((a.1.size : Int) - ((takeN c4).2.1))) (fun v12 : Int => Let (IntKind.u64.wrap v12) (fun v13 : Int => Br (decide (v13 < ((takeN c4).1))) ((ByteArray.empty = ((takeText a).1)) ∧ ((0 : Int) = ((takeText a).2.1)) ∧ ((2 : Int) = ((takeText a).2.2)) ∧ True) (Let (IntKind.i64.wrap ((takeN c4).1)) (fun v17 : Int => Let (IntKind.i64.wrap (((takeN c4).2.1) + v17)) (fun v18 : Int => Br (decide ((0 : Int) ≤ ((takeN c4).2.1)) && decide (((takeN c4).2.1) ≤ v18) && decide (v18 ≤ (a.1.size : Int))) (Let (IntKind.i64.wrap ((takeN c4).1)) (fun v20 : Int => Let (IntKind.i64.wrap (((takeN c4).2.1) + v20)) (fun v21 : Int => ((subB a.1 ((takeN c4).2.1) v18) = ((takeText a).1)) ∧ (v21 = ((takeText a).2.1)) ∧ ((0 : Int) = ((takeText a).2.2)) ∧ True))) False)))))))))
def f21.vc (a : ByteArray × Int × Int) : Prop := ((a.2.2 < (0 : Int) → ((ByteArray.empty, (0 : Int), (1 : Int)) = takeText a)) ∧ (¬ (a.2.2 < (0 : Int)) → (take_pre (a.1, a.2.1) ∧ ((¬ ((takeN (a.1, a.2.1)).2.2) = (0 : Int) → ((ByteArray.empty, (0 : Int), (takeN (a.1, a.2.1)).2.2) = takeText a)) ∧ (¬ (¬ ((takeN (a.1, a.2.1)).2.2) = (0 : Int)) → (0 ≤ a.2.2 ∧ a.2.2 ≤ 18446744073709551615 ∧ (((a.2.2) < ((takeN (a.1, a.2.1)).1) → ((ByteArray.empty, (0 : Int), (4 : Int)) = takeText a)) ∧ (¬ ((a.2.2) < ((takeN (a.1, a.2.1)).1)) → (-9223372036854775808 ≤ ((a.1.size : Int) - ((takeN (a.1, a.2.1)).2.1)) ∧ ((a.1.size : Int) - ((takeN (a.1, a.2.1)).2.1)) ≤ 9223372036854775807 ∧ (0 ≤ ((a.1.size : Int) - ((takeN (a.1, a.2.1)).2.1)) ∧ ((a.1.size : Int) - ((takeN (a.1, a.2.1)).2.1)) ≤ 18446744073709551615 ∧ ((((a.1.size : Int) - ((takeN (a.1, a.2.1)).2.1)) < ((takeN (a.1, a.2.1)).1) → ((ByteArray.empty, (0 : Int), (2 : Int)) = takeText a)) ∧ (¬ (((a.1.size : Int) - ((takeN (a.1, a.2.1)).2.1)) < ((takeN (a.1, a.2.1)).1)) → (-9223372036854775808 ≤ ((takeN (a.1, a.2.1)).1) ∧ ((takeN (a.1, a.2.1)).1) ≤ 9223372036854775807 ∧ (-9223372036854775808 ≤ (((takeN (a.1, a.2.1)).2.1) + ((takeN (a.1, a.2.1)).1)) ∧ (((takeN (a.1, a.2.1)).2.1) + ((takeN (a.1, a.2.1)).1)) ≤ 9223372036854775807 ∧ ((0 : Int) ≤ ((takeN (a.1, a.2.1)).2.1) ∧ ((takeN (a.1, a.2.1)).2.1) ≤ (((takeN (a.1, a.2.1)).2.1) + ((takeN (a.1, a.2.1)).1)) ∧ (((takeN (a.1, a.2.1)).2.1) + ((takeN (a.1, a.2.1)).1)) ≤ (a.1.size : Int) ∧ (-9223372036854775808 ≤ ((takeN (a.1, a.2.1)).1) ∧ ((takeN (a.1, a.2.1)).1) ≤ 9223372036854775807 ∧ (-9223372036854775808 ≤ (((takeN (a.1, a.2.1)).2.1) + ((takeN (a.1, a.2.1)).1)) ∧ (((takeN (a.1, a.2.1)).2.1) + ((takeN (a.1, a.2.1)).1)) ≤ 9223372036854775807 ∧ ((subB a.1 ((takeN (a.1, a.2.1)).2.1) (((takeN (a.1, a.2.1)).2.1) + ((takeN (a.1, a.2.1)).1)), (((takeN (a.1, a.2.1)).2.1) + ((takeN (a.1, a.2.1)).1)), (0 : Int)) = takeText a))))))))))))))))))
set_option maxRecDepth 100000 in
set_option maxHeartbeats 2000000 in
theorem f21.of (a : ByteArray × Int × Int) (h : f21.vc a) : f21.tree a := br h Cnd.dec (fun h1 k52 => ⟨(congrArg (fun x : ByteArray × Int × Int => x.1) k52 :), ⟨(congrArg (fun x : ByteArray × Int × Int => x.2.1) k52 :), ⟨(congrArg (fun x : ByteArray × Int × Int => x.2.2) k52 :), trivial⟩⟩⟩) (fun h2 k53 => ⟨(a.1, a.2.1), ⟨rfl, ⟨rfl, ⟨k53.1, br k53.2 Cnd.ne (fun h5 k49 => ⟨(congrArg (fun x : ByteArray × Int × Int => x.1) k49 :), ⟨(congrArg (fun x : ByteArray × Int × Int => x.2.1) k49 :), ⟨(congrArg (fun x : ByteArray × Int × Int => x.2.2) k49 :), trivial⟩⟩⟩) (fun h6 k50 => wrapK.u64 k50 (fun h46 h47 k48 => br k48 Cnd.dec (fun h9 k44 => ⟨(congrArg (fun x : ByteArray × Int × Int => x.1) k44 :), ⟨(congrArg (fun x : ByteArray × Int × Int => x.2.1) k44 :), ⟨(congrArg (fun x : ByteArray × Int × Int => x.2.2) k44 :), trivial⟩⟩⟩) (fun h10 k45 => wrapK.i64 k45 (fun h41 h42 k43 => wrapK.u64 k43 (fun h38 h39 k40 => br k40 Cnd.dec (fun h14 k36 => ⟨(congrArg (fun x : ByteArray × Int × Int => x.1) k36 :), ⟨(congrArg (fun x : ByteArray × Int × Int => x.2.1) k36 :), ⟨(congrArg (fun x : ByteArray × Int × Int => x.2.2) k36 :), trivial⟩⟩⟩) (fun h15 k37 => wrapK.i64 k37 (fun h33 h34 k35 => wrapK.i64 k35 (fun h30 h31 k32 => chk k32.2.2.2 Cnd.ss ⟨k32.1, k32.2.1, k32.2.2.1⟩ (fun h19 k29 => wrapK.i64 k29 (fun h26 h27 k28 => wrapK.i64 k28 (fun h23 h24 k25 => ⟨(congrArg (fun x : ByteArray × Int × Int => x.1) k25 :), ⟨(congrArg (fun x : ByteArray × Int × Int => x.2.1) k25 :), ⟨(congrArg (fun x : ByteArray × Int × Int => x.2.2) k25 :), trivial⟩⟩⟩)))))))))))⟩⟩⟩⟩)
theorem f21.eq (a : ByteArray × Int × Int) : (f21.af a).gives f21.env (f21.args a) (f21.blks a) (f21.res a) (f21.blks' a) = f21.tree a := by kernel_rfl
end Go.Abs

/- Layer 1: what the code asks is so. -/
namespace Go.Abs
open Go

theorem f46.ok (a : ByteArray) (h : own_pre a) : f46.vc a := by
  unfold own_pre at h
  refine ⟨?_, ?_, ?_, ?_, ?_, empty_app a⟩ <;> omega

/-- The table of lengths. -/
theorem tab_ok : ∀ x : Fin 256, nth f45.s0.data.toList x.1 0 = UInt8.ofNat (blen x.1) := by decide +kernel

theorem tab (x : Nat) (h : x < 256) : bAt f45.s0 (IntKind.u8.wrap (x : Int)) = (blen x : Int) := by
  have h1 : IntKind.u8.wrap (x : Int) = (x : Int) := wrap_id (by simp [IntKind.signed]) (by simp [IntKind.signed, IntKind.bits]; omega)
  have h2 : nth f45.s0.data.toList x 0 = UInt8.ofNat (blen x) := tab_ok ⟨x, h⟩
  unfold bAt
  rw [h1, Int.toNat_natCast, h2, UInt8.toNat_ofNat']
  have : blen x ≤ 8 := by
    unfold blen
    split
    · omega
    · rename_i h0
      have := (Nat.log2_lt h0 (k := 8)).2 (by omega)
      omega
  omega

theorem blen_div {n k : Nat} (h : 2 ^ k ≤ n) : blen n = k + blen (n / 2 ^ k) := by
  have hp : 0 < 2 ^ k := Nat.pow_pos (by decide)
  have h1 : n / 2 ^ k ≠ 0 := by
    have := (Nat.le_div_iff_mul_le hp (x := 1) (y := n)).2 (by omega)
    omega
  have h0 : n ≠ 0 := by omega
  unfold blen
  rw [if_neg h0, if_neg h1]
  have e : n.log2 = k + (n / 2 ^ k).log2 := by
    have a1 : 2 ^ (n / 2 ^ k).log2 ≤ n / 2 ^ k := (Nat.le_log2 h1).1 (Nat.le_refl _)
    have a2 : n / 2 ^ k < 2 ^ ((n / 2 ^ k).log2 + 1) := (Nat.log2_lt h1).1 (Nat.lt_succ_self _)
    have b1 : 2 ^ (k + (n / 2 ^ k).log2) ≤ n := by
      rw [Nat.pow_add, Nat.mul_comm]
      exact (Nat.le_div_iff_mul_le hp).1 a1
    have b2 : n < 2 ^ (k + (n / 2 ^ k).log2 + 1) := by
      rw [Nat.add_assoc, Nat.pow_add, Nat.mul_comm]
      exact (Nat.div_lt_iff_lt_mul hp).1 a2
    have c1 := (Nat.le_log2 h0).2 b1
    have c2 := (Nat.log2_lt h0).2 b2
    omega
  omega

theorem f45.ok (a : Int) (h : len64_pre a) : f45.vc a := by
  obtain ⟨h0, h1⟩ := h
  obtain ⟨n, rfl⟩ := Int.eq_ofNat_of_zero_le h0
  have key : ∀ (x : Nat) (k : Nat) (c : Int), x < 256 → len64 (n : Int) = k + blen x → (k : Int) = c → k ≤ 64 → (0 : Int) ≤ (IntKind.u8.wrap (x : Int)) ∧ (IntKind.u8.wrap (x : Int)) < (256 : Int) ∧ -9223372036854775808 ≤ (c + (bAt f45.s0 (IntKind.u8.wrap (x : Int)))) ∧ (c + (bAt f45.s0 (IntKind.u8.wrap (x : Int)))) ≤ 9223372036854775807 ∧ (c + (bAt f45.s0 (IntKind.u8.wrap (x : Int)))) = len64 (n : Int) := by
    intro x k c hx hl hk hk'
    have h3 := u8w (x : Int)
    have h4 := u8b f45.s0 (IntKind.u8.wrap (x : Int))
    have h5 := tab x hx
    refine ⟨h3.1, by omega, by omega, by omega, by rw [hl, h5, ← hk]⟩
  have l64 : len64 (n : Int) = (blen n : Int) := by simp [len64]
  have d32 : ((n : Int) / 4294967296) = ((n / 4294967296 : Nat) : Int) := by simp
  have d16 : ∀ m : Nat, ((m : Int) / 65536) = ((m / 65536 : Nat) : Int) := fun m => by simp
  have d8 : ∀ m : Nat, ((m : Int) / 256) = ((m / 256 : Nat) : Int) := fun m => by simp
  have b32 : ∀ m : Nat, 4294967296 ≤ m → blen m = 32 + blen (m / 4294967296) := fun m hm => blen_div (k := 32) hm
  have b16 : ∀ m : Nat, 65536 ≤ m → blen m = 16 + blen (m / 65536) := fun m hm => blen_div (k := 16) hm
  have b8 : ∀ m : Nat, 256 ≤ m → blen m = 8 + blen (m / 256) := fun m hm => blen_div (k := 8) hm
  unfold f45.vc
  rw [d32, d16, d16]
  rw [d8, d8, d8, d8]
  refine ⟨fun h2 => ⟨fun h3 => ⟨fun h4 => ?_, fun h4 => ?_⟩, fun h3 => ⟨fun h4 => ?_, fun h4 => ?_⟩⟩, fun h2 => ⟨fun h3 => ⟨fun h4 => ?_, fun h4 => ?_⟩, fun h3 => ⟨fun h4 => ?_, fun h4 => ?_⟩⟩⟩
  · exact key _ 56 _ (by omega) (by rw [l64, b32 n (by omega), b16 _ (by omega), b8 _ (by omega)]; omega) rfl (by omega)
  · exact key _ 48 _ (by omega) (by rw [l64, b32 n (by omega), b16 _ (by omega)]; omega) rfl (by omega)
  · exact key _ 40 _ (by omega) (by rw [l64, b32 n (by omega), b8 _ (by omega)]; omega) rfl (by omega)
  · exact key _ 32 _ (by omega) (by rw [l64, b32 n (by omega)]; omega) rfl (by omega)
  · exact key _ 24 _ (by omega) (by rw [l64, b16 n (by omega), b8 _ (by omega)]; omega) rfl (by omega)
  · exact key _ 16 _ (by omega) (by rw [l64, b16 n (by omega)]; omega) rfl (by omega)
  · exact key _ 8 _ (by omega) (by rw [l64, b8 n (by omega)]; omega) rfl (by omega)
  · exact key _ 0 _ (by omega) (by rw [l64]; omega) rfl (by omega)

theorem len64_nb {a : Int} (h : U64 a) : 0 ≤ len64 a ∧ len64 a ≤ 64 ∧ (len64 a + 7) / 8 = (nb a.toNat : Int) := by
  have h1 := nb_eight h.lt
  unfold len64
  unfold nb at h1 ⊢
  omega

theorem pow28 (k : Nat) : (2 : Int) ^ (8 * k) = ((256 ^ k : Nat) : Int) := by
  have h : ((2 ^ (8 * k) : Nat) : Int) = ((256 ^ k : Nat) : Int) := by rw [Nat.pow_mul]
  rw [← h, Int.natCast_pow]
  rfl

theorem f14.ok (a : ByteArray × Int) (h : put_pre a) : f14.vc a := by
  obtain ⟨h1, h2⟩ := h
  obtain ⟨l1, l2, l3⟩ := len64_nb h2
  have h8 := nb_eight h2.lt
  obtain ⟨u1, u2⟩ := h2
  obtain ⟨b, n⟩ := a
  simp only at *
  unfold f14.vc
  simp only [l3, ownB]
  refine ⟨⟨u1, u2⟩, by omega, by omega, by omega, by omega, h1, by omega, by omega, by omega,
    fun y => -1 ≤ y.2 ∧ y.2 < nb n.toNat ∧ y.1.data.toList = b.data.toList ++ UInt8.ofNat (nb n.toNat) :: be ((nb n.toNat : Int) - 1 - y.2).toNat (n.toNat / 256 ^ (y.2 + 1).toNat), fun y => (y.2 + 1).toNat, ?_, ?_⟩
  · refine ⟨by omega, by omega, ?_⟩
    rw [data_app, by1_data, ofNat_wrap (by omega), Int.toNat_natCast]
    congr 2
    rw [show ((nb n.toNat : Int) - 1 - ((nb n.toNat : Int) - 1)).toNat = 0 from by omega]
    rfl
  · rintro ⟨o, i⟩ ⟨i1, i2, i3⟩
    simp only at i1 i2 i3 ⊢
    have hs : o.size ≤ b.size + 10 := by
      rw [← data_length, i3, List.length_append, List.length_cons, be_length, data_length]
      omega
    refine ⟨fun hi => ⟨by omega, by omega, by omega, by omega, by omega, by omega, ⟨by omega, by omega, ?_⟩, by omega⟩, fun hi => ?_⟩
    · rw [data_app, by1_data, i3]
      have e1 : min (Int.toNat (8 * i)) 64 = 8 * i.toNat := by omega
      have e2 : (n / 2 ^ (8 * i.toNat) : Int) = ((n.toNat / 256 ^ i.toNat : Nat) : Int) := by
        rw [pow28]
        obtain ⟨m, rfl⟩ := Int.eq_ofNat_of_zero_le u1
        simp
      rw [e1, e2, ofNat_wrap (Int.natCast_nonneg _), Int.toNat_natCast]
      rw [show ((nb n.toNat : Int) - 1 - (i - 1)).toNat = ((nb n.toNat : Int) - 1 - i).toNat + 1 from by omega, show (i - 1 + 1).toNat = i.toNat from by omega, be]
      rw [show (i + 1).toNat = i.toNat + 1 from by omega, Nat.div_div_eq_div_mul, ← Nat.pow_succ]
      simp
    · have : i = -1 := by omega
      subst this
      apply bytes_ext
      show _ = (b ++ num n.toNat).data.toList
      rw [data_app, num_data, i3]
      simp

theorem f15.ok (a : Int) (h : num_pre a) : f15.vc a := by
  obtain ⟨u1, u2⟩ := h
  have h8 := nb_eight (n := a.toNat) (by omega)
  unfold f15.vc
  refine ⟨fun y => ∃ j, y.1 = ((a.toNat / 256 ^ j : Nat) : Int) ∧ y.2.data.toList = be j a.toNat ∧ j ≤ nb a.toNat, fun y => y.1.toNat, ⟨0, by simp; omega, rfl, by omega⟩, ?_⟩
  rintro ⟨n, s⟩ ⟨j, i1, i2, i3⟩
  simp only at i1 i2 i3 ⊢
  have hs : s.size = j := by rw [← data_length, i2, be_length]
  have hle : a.toNat / 256 ^ j ≤ a.toNat := Nat.div_le_self _ _
  refine ⟨fun hn => ⟨by omega, by rw [by1_size]; omega, by omega, by omega, ⟨j + 1, ?_, ?_, ?_⟩, ?_⟩, fun hn => ⟨by rw [by1_size]; omega, ?_⟩⟩
  · rw [i1, Nat.pow_succ, ← Nat.div_div_eq_div_mul]
    simp
  · rw [data_app, by1_data, i2, be_hi, ofNat_wrap (Int.emod_nonneg _ (by decide))]
    have : UInt8.ofNat (n % 256).toNat = UInt8.ofNat (a.toNat / 256 ^ j) := by
      apply UInt8.toNat_inj.1
      rw [UInt8.toNat_ofNat', UInt8.toNat_ofNat', i1]
      omega
    rw [this]
    rfl
  · have : ¬ nb a.toNat ≤ j := fun hh => by
      have := nb_le.1 hh
      rw [Nat.div_eq_of_lt this] at i1
      omega
    omega
  · omega
  · have hz : a.toNat / 256 ^ j = 0 := by
      generalize a.toNat / 256 ^ j = q at i1 ⊢
      omega
    have : a.toNat < 256 ^ j := (Nat.div_eq_zero_iff_lt (Nat.pow_pos (by decide))).1 hz
    have hj : j = nb a.toNat := by have := nb_le.2 this; omega
    apply bytes_ext
    show _ = (num a.toNat).data.toList
    rw [data_app, by1_data, num_data, i2, ofNat_wrap (by omega), hs, hj]
    simp

/-- Two ways to say where the numbers end. -/
theorem f19.ok (a : ByteArray × Int) (h : take_pre a) : f19.vc a := by
  unfold take_pre at h
  obtain ⟨b, i⟩ := a
  simp only at h
  have hk := u8b b i
  have ht : ∀ x, x = takeN (b, i) ↔ x = takeN (b, i) := fun _ => Iff.rfl
  unfold f19.vc
  simp only
  refine ⟨fun c1 => ?_, fun c1 => ⟨fun c2 => ?_, fun c2 => ⟨fun c3 => ?_, fun c3 => ⟨by omega, by omega, fun c4 => ?_, fun c4 => ⟨by omega, by omega, by omega, by omega, fun c5 => ?_, fun c5 => ?_⟩⟩⟩⟩⟩
  · simp [takeN, c1]
  · simp [takeN, c2]
  · subst c3; simp [takeN]
  · simp [takeN, c1, c2, c3, c4]
  · simp [takeN, c1, c2, c3, c4, c5]
  · refine ⟨fun y => y.1 = bAt b i ∧ 0 ≤ y.2.2 ∧ y.2.2 ≤ y.1 ∧ y.2.1 = val b (i.toNat + 1) y.2.2.toNat ∧ (0 < y.2.2 → bAt b (i + 1) ≠ 0), fun y => (y.1 - y.2.2).toNat, ⟨rfl, Int.le_refl _, by simp only; omega, rfl, by simp⟩, ?_⟩
    rintro ⟨k, n, j⟩ ⟨e1, j1, j2, e2, j3⟩
    simp only at e1 e2 j1 j2 j3 ⊢
    subst e1 e2
    have hv := val_lt b (i.toNat + 1) j.toNat
    have hv0 := val_nonneg b (i.toNat + 1) j.toNat
    have hc := u8b b (i + 1 + j)
    have hs : bAt b (i + 1 + j) = bAtN b (i.toNat + 1 + j.toNat) := by
      unfold bAt bAtN
      rw [show (i + 1 + j).toNat = i.toNat + 1 + j.toNat from by omega]
    have hp : j < bAt b i → val b (i.toNat + 1) j.toNat < 72057594037927936 := fun hj => by
      have h2 : (256 : Int) ^ j.toNat ≤ 256 ^ 7 := by
        have h4 : (256 : Nat) ^ j.toNat ≤ 256 ^ 7 := Nat.pow_le_pow_right (by decide) (by omega)
        have h5 : ((256 ^ j.toNat : Nat) : Int) ≤ ((256 ^ 7 : Nat) : Int) := Int.ofNat_le.2 h4
        rw [Int.natCast_pow, Int.natCast_pow] at h5
        exact h5
      have h3 : (256 : Int) ^ 7 = 72057594037927936 := by decide
      omega
    have next : val b (i.toNat + 1) (j + 1).toNat = val b (i.toNat + 1) j.toNat * 256 + bAt b (i + 1 + j) := by
      rw [show (j + 1).toNat = j.toNat + 1 from by omega, hs]
      rfl
    refine ⟨fun hj => ⟨by omega, by omega, by omega, by omega, by omega, by omega, fun e0 => ⟨fun e1 => ?_, fun e1 => ?_⟩, fun e0 => ?_⟩, fun hj => ⟨by omega, by omega, by omega, by omega, ?_⟩⟩
    · subst e0
      have hz : bAt b (i + 1) = 0 := by rw [← e1, show i + 1 + 0 = i + 1 from by omega]
      simp [takeN, c1, c2, c3, c4, c5, hz]
      omega
    · have := hp hj
      subst e0
      refine ⟨by omega, by omega, by omega, by omega, by omega, by omega, ⟨rfl, by omega, by omega, next.symm, fun _ => ?_⟩, by omega⟩
      rw [show i + 1 = i + 1 + 0 from by omega]
      exact e1
    · have := hp hj
      exact ⟨by omega, by omega, by omega, by omega, by omega, by omega, ⟨rfl, by omega, by omega, next.symm, fun _ => j3 (by omega)⟩, by omega⟩
    · have hj' : j = bAt b i := by omega
      have hx : ¬ (0 < bAt b i ∧ bAt b (i + 1) = 0) := fun ⟨x1, x2⟩ => j3 (by omega) x2
      unfold takeN
      simp only
      rw [if_neg (by omega), if_neg c3, if_neg c4, if_neg c5, if_neg hx, hj']

theorem f18.ok (a : ByteArray × Int) (h : take_pre a) : f18.vc a := by
  unfold take_pre at h
  obtain ⟨b, i⟩ := a
  simp only at h
  have hk := u8b b i
  have hkk : bAtN b (Int.toNat (0 : Int) + Int.toNat i) = bAt b i := by
    unfold bAt bAtN
    simp
  have loop : ∀ (c1 : ¬ i < 0) (c2 : ¬ (b.size : Int) < i) (c3 : ¬ i = b.size) (c4 : ¬ 8 < bAt b i) (c5 : ¬ (b.size : Int) - i - 1 < bAt b i) (c6 : ¬ (0 < bAt b i ∧ bAt b (i + 1) = 0)), True := fun _ _ _ _ _ _ => trivial
  have h1 : 0 ≤ i → i < b.size → bAtN b (Int.toNat (1 : Int) + Int.toNat i) = bAt b (i + 1) := fun _ _ => by
    unfold bAt bAtN
    rw [show (i + 1).toNat = Int.toNat 1 + i.toNat from by omega]
  unfold f18.vc
  simp only [hkk]
  have key : ∀ (c1 : ¬ i < 0) (c2 : ¬ (b.size : Int) < i) (c3 : ¬ i = b.size) (c4 : ¬ 8 < bAt b i) (c5 : ¬ (b.size : Int) - i - 1 < bAt b i) (c6 : ¬ (0 < bAt b i ∧ bAt b (i + 1) = 0)),
      ∃ (I : (Int × Int × ByteArray × Int × Int) → Prop) (μ : (Int × Int × ByteArray × Int × Int) → Nat), I (bAt b i, 0, subB (subB b i b.size) 1 (bAt b i + 1), (Int.toNat (bAt b i + 1 - 1) : Int), 0) ∧ ∀ y, I y → (y.2.2.2.2 < y.2.2.2.1 → 0 ≤ y.2.2.2.2 ∧ y.2.2.2.2 < (y.2.2.1.size : Int) ∧ -9223372036854775808 ≤ (y.2.2.2.2 + (1 : Int)) ∧ (y.2.2.2.2 + (1 : Int)) ≤ 9223372036854775807 ∧
        I (y.1, IntKind.u64.wrap ((BitVec.ofInt 64 (IntKind.u64.wrap (y.2.1 * 256)) ||| BitVec.ofInt 64 (bAt y.2.2.1 y.2.2.2.2)).toNat : Int), y.2.2.1, y.2.2.2.1, (y.2.2.2.2 + (1 : Int))) ∧ μ (y.1, IntKind.u64.wrap ((BitVec.ofInt 64 (IntKind.u64.wrap (y.2.1 * 256)) ||| BitVec.ofInt 64 (bAt y.2.2.1 y.2.2.2.2)).toNat : Int), y.2.2.1, y.2.2.2.1, (y.2.2.2.2 + (1 : Int))) < μ y) ∧
        (¬ y.2.2.2.2 < y.2.2.2.1 → -9223372036854775808 ≤ (i + y.1) ∧ (i + y.1) ≤ 9223372036854775807 ∧ -9223372036854775808 ≤ ((i + y.1) + (1 : Int)) ∧ ((i + y.1) + (1 : Int)) ≤ 9223372036854775807 ∧ (y.2.1, ((i + y.1) + (1 : Int)), (0 : Int)) = takeN (b, i)) := by
    intro c1 c2 c3 c4 c5 c6
    have s1 : (subB b i b.size).size = Int.toNat (b.size - i) := RdB.size_sub ⟨by omega, by omega, by omega⟩
    have s2 : (subB (subB b i b.size) 1 (bAt b i + 1)).size = (bAt b i).toNat := by
      rw [RdB.size_sub ⟨by omega, by omega, by rw [s1]; omega⟩]
      omega
    refine ⟨fun y => y.1 = bAt b i ∧ y.2.2.1 = subB (subB b i b.size) 1 (bAt b i + 1) ∧ y.2.2.2.1 = bAt b i ∧ 0 ≤ y.2.2.2.2 ∧ y.2.2.2.2 ≤ bAt b i ∧ y.2.1 = val b (i.toNat + 1) y.2.2.2.2.toNat, fun y => (y.2.2.2.1 - y.2.2.2.2).toNat, ⟨rfl, rfl, by simp only; omega, by simp, by simp only; omega, rfl⟩, ?_⟩
    rintro ⟨m, n, r, k, j⟩ ⟨e1, e2, e3, j1, j2, e4⟩
    simp only at e1 e2 e3 e4 j1 j2 ⊢
    subst e1 e2 e3 e4
    have hv0 := val_nonneg b (i.toNat + 1) j.toNat
    have hv := val_lt b (i.toNat + 1) j.toNat
    refine ⟨fun hj => ?_, fun hj => ⟨by omega, by omega, by omega, by omega, ?_⟩⟩
    · have hp : val b (i.toNat + 1) j.toNat < 72057594037927936 := by
        have h2 : (256 : Int) ^ j.toNat ≤ 256 ^ 7 := by
          have h4 : (256 : Nat) ^ j.toNat ≤ 256 ^ 7 := Nat.pow_le_pow_right (by decide) (by omega)
          have h5 : ((256 ^ j.toNat : Nat) : Int) ≤ ((256 ^ 7 : Nat) : Int) := Int.ofNat_le.2 h4
          rw [Int.natCast_pow, Int.natCast_pow] at h5
          exact h5
        have h3 : (256 : Int) ^ 7 = 72057594037927936 := by decide
        omega
      have e3 : bAt (subB (subB b i b.size) 1 (bAt b i + 1)) j = bAtN b (i.toNat + 1 + j.toNat) := by
        rw [bAt_sub ⟨by omega, by omega, by rw [s1]; omega⟩ (by omega) (by omega), bAt_sub ⟨by omega, by omega, by omega⟩ (by omega) (by omega), bAtN_eq]
        rw [show (i + (1 + j)).toNat = i.toNat + 1 + j.toNat from by omega]
      have hc := u8bN b (i.toNat + 1 + j.toNat)
      rw [e3, shl_or hv0 hp hc.1 hc.2]
      refine ⟨by omega, by rw [s2]; omega, by omega, by omega, ⟨rfl, rfl, rfl, by omega, by omega, ?_⟩, by omega⟩
      rw [show (j + 1).toNat = j.toNat + 1 from by omega]
      rfl
    · have hj' : j = bAt b i := by omega
      unfold takeN
      simp only
      rw [if_neg (by omega), if_neg c3, if_neg c4, if_neg c5, if_neg c6, hj', show i + bAt b i + 1 = i + 1 + bAt b i from by omega]
  refine ⟨fun c1 => ?_, fun c1 => ⟨fun c2 => ?_, fun c2 => ⟨by omega, by omega, fun c3 => ?_, fun c3 => ⟨by omega, fun c4 => ?_, fun c4 => ⟨fun c5 => ?_, fun c5 => ⟨fun c6 => ⟨by omega, fun c7 => ?_, fun c7 => ⟨by omega, by omega, by omega, by omega, ?_⟩⟩, fun c6 => ⟨by omega, by omega, by omega, by omega, ?_⟩⟩⟩⟩⟩⟩⟩
  · simp [takeN, c1]
  · simp [takeN, c2]
  · have : i = b.size := by omega
    subst this; simp [takeN]
  · unfold takeN
    simp only
    rw [if_neg (by omega), if_neg (by omega), if_pos c4]
  · unfold takeN
    simp only
    rw [if_neg (by omega), if_neg (by omega), if_neg c4, if_pos (by omega)]
  · rw [h1 (by omega) (by omega)] at c7
    unfold takeN
    simp only
    rw [if_neg (by omega), if_neg (by omega), if_neg c4, if_neg (by omega), if_pos ⟨c6, c7⟩]
  · rw [h1 (by omega) (by omega)] at c7
    exact key c1 c2 (by omega) c4 (by omega) (fun x => c7 x.2)
  · exact key c1 c2 (by omega) c4 (by omega) (fun x => c6 x.1)

theorem putB_size (a : ByteArray × Int) : (putB a).size = a.1.size + (nb a.2.toNat + 1) := by unfold putB; rw [size_app, num_size]

theorem f16.ok (a : ByteArray × ByteArray) (h : putText_pre a) : f16.vc a := by
  obtain ⟨h1, h2⟩ := h
  have h8 := nb_eight (n := a.2.size) (by omega)
  refine ⟨by omega, by omega, ⟨by simp only; omega, by simp only; omega, by simp only; omega⟩, ?_, ?_⟩
  · rw [putB_size]
    simp only [Int.toNat_natCast]
    omega
  · unfold putB putText
    simp only [Int.toNat_natCast]

theorem f17.ok (a : ByteArray) (h : text_pre a) : f17.vc a := by
  unfold text_pre at h
  have h8 := nb_eight (n := a.size) (by omega)
  refine ⟨by omega, by omega, ⟨by omega, by omega⟩, ?_, ?_⟩
  · unfold numS
    rw [num_size]
    simp only [Int.toNat_natCast]
    omega
  · unfold numS textS
    simp only [Int.toNat_natCast]

theorem f20.ok (a : ByteArray × Int × Int) (h : takeText_pre a) : f20.vc a := by
  obtain ⟨h1, h2⟩ := h
  obtain ⟨b1, b2, b3, b4⟩ := takeN_bd (a.1, a.2.1)
  unfold f20.vc takeText
  simp only at b4
  generalize takeN (a.1, a.2.1) = t at *
  refine ⟨fun c1 => by rw [if_pos c1], fun c1 => ⟨h1, ?_, ?_⟩⟩
  · intro c2
    rw [if_neg c1, if_pos c2]
  · intro c2
    refine ⟨by omega, by omega, fun c3 => by rw [if_neg c1, if_neg c2, if_pos c3], fun c3 => ⟨by omega, by omega, by omega, by omega, fun c4 => by rw [if_neg c1, if_neg c2, if_neg c3, if_pos c4], fun c4 => ?_⟩⟩
    refine ⟨by omega, by omega, by omega, by omega, by omega, by omega, by omega, by omega, by omega, by omega, by omega, ?_⟩
    rw [if_neg c1, if_neg c2, if_neg c3, if_neg c4]

theorem f21.ok (a : ByteArray × Int × Int) (h : takeText_pre a) : f21.vc a := by
  obtain ⟨h1, h2⟩ := h
  obtain ⟨b1, b2, b3, b4⟩ := takeN_bd (a.1, a.2.1)
  unfold f21.vc takeText
  simp only at b4
  generalize takeN (a.1, a.2.1) = t at *
  refine ⟨fun c1 => by rw [if_pos c1], fun c1 => ⟨h1, ?_, ?_⟩⟩
  · intro c2
    rw [if_neg c1, if_pos c2]
  · intro c2
    refine ⟨by omega, by omega, fun c3 => by rw [if_neg c1, if_neg c2, if_pos c3], fun c3 => ⟨by omega, by omega, by omega, by omega, fun c4 => by rw [if_neg c1, if_neg c2, if_neg c3, if_pos c4], fun c4 => ?_⟩⟩
    refine ⟨by omega, by omega, by omega, by omega, by omega, by omega, by omega, by omega, by omega, by omega, by omega, ?_⟩
    rw [if_neg c1, if_neg c2, if_neg c3, if_neg c4]

end Go.Abs

-- interregnum/interregnumref04.Name
namespace Go.Abs
open Go
def f58.args (a : ByteArray) : List D := [.str a]
def f58.blks (a : ByteArray) : List (List D) := []
def f58.res (a : ByteArray) : List D := [.bool (nameB a)]
def f58.blks' (a : ByteArray) : List (List D) := []
def f58.C : Contract := FnC f58.args f58.blks (fun a => name_pre a) f58.res f58.blks'
end Go.Abs

/- interregnum/interregnumref04.Name -/
namespace Go.Abs
open Go
set_option linter.unusedVariables false
def f58.kills (a : ByteArray) : List Hint := [.tell Int (fun x => ⟨[.str a, .dead, .dead, .int .i64 x, .dead, .dead, .dead, .dead, .dead, .dead, .dead, .dead, .dead, .dead, .dead, .dead, .dead, .dead, .dead, .dead, .dead, .dead, .dead, .dead, .dead, .dead, .dead, .dead, .dead, .dead, .dead, .dead, .dead, .dead, .dead, .dead, .dead, .dead, .dead, .dead, .dead, .dead, .dead, .dead, .dead], [], []⟩)]
def f58.cuts (a : ByteArray) : List (Nat × Σ β : Type, β → Tm) := []
def f58.af (a : ByteArray) : AF := AF.mk (.seq (.region [⟨(some 2), 0, .move, [.c (.bool false)], none⟩])
 (.seq (.seq (.region [⟨(some 5), 1, .move, [.t 0], none⟩,
  ⟨(some 6), 2, (.len true), [.t 5], none⟩,
  ⟨(some 7), 3, (.bin .lss), [.t 6, .c (.int .i64 (1))], none⟩,
  ⟨(some 8), 4, .move, [.t 7], none⟩,
  ⟨(some 9), 5, .move, [.t 0], (some (8, false))⟩,
  ⟨(some 10), 6, (.len true), [.t 9], (some (8, false))⟩,
  ⟨(some 11), 7, (.bin .gtr), [.t 10, .c (.int .i64 (16))], (some (8, false))⟩,
  ⟨(some 12), 8, .pick, [.t 8, .c (.bool true), .t 11], none⟩,
  ⟨(some 13), 9, .move, [.t 12], none⟩,
  ⟨(some 14), 10, .move, [.t 0], (some (13, false))⟩,
  ⟨(some 15), 11, .indexStr, [.t 14, .c (.int .i64 (0))], (some (13, false))⟩,
  ⟨(some 16), 12, (.bin .eql), [.t 15, .c (.int .u8 (45))], (some (13, false))⟩,
  ⟨(some 17), 13, .pick, [.t 13, .c (.bool true), .t 16], none⟩])
 (.cond (.t 17) (.seq (.region [⟨(some 2), 14, .move, [.c (.bool false)], none⟩])
 (.ret)) (.skip)))
 (.seq (.seq (.region [⟨(some 3), 15, .move, [.c (.int .i64 (0))], none⟩])
 (.block 0 (.loopT Int (fun x => ⟨[.str a, .dead, .dead, .int .i64 x, .dead, .dead, .dead, .dead, .dead, .dead, .dead, .dead, .dead, .dead, .dead, .dead, .dead, .dead, .dead, .dead, .dead, .dead, .dead, .dead, .dead, .dead, .dead, .dead, .dead, .dead, .dead, .dead, .dead, .dead, .dead, .dead, .dead, .dead, .dead, .dead, .dead, .dead, .dead, .dead, .dead], [], []⟩) 16 46 (.seq (.seq (.region [⟨(some 18), 16, .move, [.t 3], none⟩,
  ⟨(some 19), 17, .move, [.t 0], none⟩,
  ⟨(some 20), 18, (.len true), [.t 19], none⟩,
  ⟨(some 21), 19, (.bin .lss), [.t 18, .t 20], none⟩])
 (.cond (.t 21) (.skip) (.exit 0)))
 (.seq (.block 1 (.seq (.region [⟨(some 24), 20, .move, [.t 0], none⟩,
  ⟨(some 25), 21, .move, [.t 3], none⟩,
  ⟨(some 26), 22, .indexStr, [.t 24, .t 25], none⟩,
  ⟨(some 4), 23, .move, [.t 26], none⟩])
 (.seq (.region [⟨(some 27), 24, .move, [.t 4], none⟩,
  ⟨(some 28), 25, (.bin .lss), [.t 27, .c (.int .u8 (97))], none⟩,
  ⟨(some 29), 26, .move, [.t 28], none⟩,
  ⟨(some 30), 27, .move, [.t 4], (some (29, false))⟩,
  ⟨(some 31), 28, (.bin .gtr), [.t 30, .c (.int .u8 (122))], (some (29, false))⟩,
  ⟨(some 32), 29, .pick, [.t 29, .c (.bool true), .t 31], none⟩,
  ⟨(some 33), 30, .move, [.t 32], none⟩,
  ⟨(some 34), 31, .move, [.t 4], (some (33, true))⟩,
  ⟨(some 35), 32, (.bin .lss), [.t 34, .c (.int .u8 (48))], (some (33, true))⟩,
  ⟨(some 36), 33, .move, [.t 35], (some (33, true))⟩,
  ⟨(some 37), 34, .move, [.t 4], (some (36, false))⟩,
  ⟨(some 38), 35, (.bin .gtr), [.t 37, .c (.int .u8 (57))], (some (36, false))⟩,
  ⟨(some 39), 36, .pick, [.t 36, .c (.bool true), .t 38], (some (33, true))⟩,
  ⟨(some 40), 37, .pick, [.t 33, .t 39, .c (.bool false)], none⟩,
  ⟨(some 41), 38, .move, [.t 40], none⟩,
  ⟨(some 42), 39, .move, [.t 4], (some (41, true))⟩,
  ⟨(some 43), 40, (.bin .neq), [.t 42, .c (.int .u8 (45))], (some (41, true))⟩,
  ⟨(some 44), 41, .pick, [.t 41, .t 43, .c (.bool false)], none⟩])
 (.cond (.t 44) (.seq (.region [⟨(some 2), 42, .move, [.c (.bool false)], none⟩])
 (.ret)) (.skip)))))
 (.region [⟨(some 22), 43, .move, [.t 3], none⟩,
  ⟨(some 23), 44, (.bin .add), [.t 22, .c (.int .i64 (1))], none⟩,
  ⟨(some 3), 45, .move, [.t 23], none⟩]))))))
 (.seq (.region [⟨(some 2), 46, .move, [.c (.bool true)], none⟩])
 (.ret)))))
  [.tmp 2] 0 44
def f58.env : Env := []
def f58.tree (a : ByteArray) : Prop := Br (decide ((a.size : Int) < (1 : Int))) ((false = (nameB a)) ∧ True) (Br (decide ((16 : Int) < (a.size : Int))) ((false = (nameB a)) ∧ True) (Br (decide ((0 : Int) ≤ (0 : Int)) && decide ((0 : Int) < (a.size : Int))) (Br ((bAt a (0 : Int)) == (45 : Int)) ((false = (nameB a)) ∧ True) (∃ (I12 : Int → Prop) (μ13 : Int → Nat), (∃ x11 : Int, (a = a) ∧ ((0 : Int) = x11) ∧ I12 x11) ∧ ∀ y14 : Int, I12 y14 → (Br (decide (y14 < (a.size : Int))) (Br (decide ((0 : Int) ≤ y14) && decide (y14 < (a.size : Int))) (Br (decide ((bAt a y14) < (97 : Int))) (Br (decide ((bAt a y14) < (48 : Int))) (Br ((bAt a y14) != (45 : Int)) ((false = (nameB a)) ∧ True) (Let (IntKind.i64.wrap (y14 + (1 : Int))) (fun v25 : Int => ∃ x26 : Int, (a = a) ∧ (v25 = x26) ∧ I12 x26 ∧ μ13 x26 < μ13 y14))) (Br (decide ((57 : Int) < (bAt a y14))) (Br ((bAt a y14) != (45 : Int)) ((false = (nameB a)) ∧ True) (Let (IntKind.i64.wrap (y14 + (1 : Int))) (fun v38 : Int => ∃ x39 : Int, (a = a) ∧ (v38 = x39) ∧ I12 x39 ∧ μ13 x39 < μ13 y14))) (Let (IntKind.i64.wrap (y14 + (1 : Int))) (fun v46 : Int => ∃ x47 : Int, (a = a) ∧ (v46 = x47) ∧ I12 x47 ∧ μ13 x47 < μ13 y14)))) (Br (decide ((122 : Int) < (bAt a y14))) (Br (decide ((bAt a y14) < (48 : Int))) (Br ((bAt a y14) != (45 : Int)) ((false = (nameB a)) ∧ True) (Let (IntKind.i64.wrap (y14 + (1 : Int))) (fun v63 : Int => ∃ x64 : Int, (a = a) ∧ (v63 = x64) ∧ I12 x64 ∧ μ13 x64 < μ13 y14))) (Br (decide ((57 : Int) < (bAt a y14))) (Br ((bAt a y14) != (45 : Int)) ((false = (nameB a)) ∧ True) (Let (IntKind.i64.wrap (y14 + (1 : Int))) (fun v76 : Int => ∃ x77 : Int, (a = a) ∧ (v76 = x77) ∧ I12 x77 ∧ μ13 x77 < μ13 y14))) (Let (IntKind.i64.wrap (y14 + (1 : Int))) (fun v84 : Int => ∃ x85 : Int, (a = a) ∧ (v84 = x85) ∧ I12 x85 ∧ μ13 x85 < μ13 y14)))) (Let (IntKind.i64.wrap (y14 + (1 : Int))) (fun v94 : Int => ∃ x95 : Int, (a = a) ∧ (v94 = x95) ∧ I12 x95 ∧ μ13 x95 < μ13 y14)))) False) ((true = (nameB a)) ∧ True)))) False))
def f58.vc (a : ByteArray) : Prop := (((a.size : Int) < (1 : Int) → (false = nameB a)) ∧ (¬ ((a.size : Int) < (1 : Int)) → (((16 : Int) < (a.size : Int) → (false = nameB a)) ∧ (¬ ((16 : Int) < (a.size : Int)) → ((0 : Int) < (a.size : Int) ∧ (((bAt a (0 : Int)) = (45 : Int) → (false = nameB a)) ∧ (¬ ((bAt a (0 : Int)) = (45 : Int)) → (∃ (I12 : Int → Prop) (μ13 : Int → Nat), I12 (0 : Int) ∧ ∀ y14 : Int, I12 y14 → ((y14 < (a.size : Int) → ((0 : Int) ≤ y14 ∧ y14 < (a.size : Int) ∧ (((bAt a y14) < (97 : Int) → (((bAt a y14) < (48 : Int) → ((¬ (bAt a y14) = (45 : Int) → (false = nameB a)) ∧ (¬ (¬ (bAt a y14) = (45 : Int)) → (-9223372036854775808 ≤ (y14 + (1 : Int)) ∧ (y14 + (1 : Int)) ≤ 9223372036854775807 ∧ (I12 (y14 + (1 : Int)) ∧ μ13 (y14 + (1 : Int)) < μ13 y14))))) ∧ (¬ ((bAt a y14) < (48 : Int)) → (((57 : Int) < (bAt a y14) → ((¬ (bAt a y14) = (45 : Int) → (false = nameB a)) ∧ (¬ (¬ (bAt a y14) = (45 : Int)) → (-9223372036854775808 ≤ (y14 + (1 : Int)) ∧ (y14 + (1 : Int)) ≤ 9223372036854775807 ∧ (I12 (y14 + (1 : Int)) ∧ μ13 (y14 + (1 : Int)) < μ13 y14))))) ∧ (¬ ((57 : Int) < (bAt a y14)) → (-9223372036854775808 ≤ (y14 + (1 : Int)) ∧ (y14 + (1 : Int)) ≤ 9223372036854775807 ∧ (I12 (y14 + (1 : Int)) ∧ μ13 (y14 + (1 : Int)) < μ13 y14))))))) ∧ (¬ ((bAt a y14) < (97 : Int)) → (((122 : Int) < (bAt a y14) → (((bAt a y14) < (48 : Int) → ((¬ (bAt a y14) = (45 : Int) → (false = nameB a)) ∧ (¬ (¬ (bAt a y14) = (45 : Int)) → (-9223372036854775808 ≤ (y14 + (1 : Int)) ∧ (y14 + (1 : Int)) ≤ 9223372036854775807 ∧ (I12 (y14 + (1 : Int)) ∧ μ13 (y14 + (1 : Int)) < μ13 y14))))) ∧ (¬ ((bAt a y14) < (48 : Int)) → (((57 : Int) < (bAt a y14) → ((¬ (bAt a y14) = (45 : Int) → (false = nameB a)) ∧ (¬ (¬ (bAt a y14) = (45 : Int)) → (-9223372036854775808 ≤ (y14 + (1 : Int)) ∧ (y14 + (1 : Int)) ≤ 9223372036854775807 ∧ (I12 (y14 + (1 : Int)) ∧ μ13 (y14 + (1 : Int)) < μ13 y14))))) ∧ (¬ ((57 : Int) < (bAt a y14)) → (-9223372036854775808 ≤ (y14 + (1 : Int)) ∧ (y14 + (1 : Int)) ≤ 9223372036854775807 ∧ (I12 (y14 + (1 : Int)) ∧ μ13 (y14 + (1 : Int)) < μ13 y14))))))) ∧ (¬ ((122 : Int) < (bAt a y14)) → (-9223372036854775808 ≤ (y14 + (1 : Int)) ∧ (y14 + (1 : Int)) ≤ 9223372036854775807 ∧ (I12 (y14 + (1 : Int)) ∧ μ13 (y14 + (1 : Int)) < μ13 y14)))))))) ∧ (¬ (y14 < (a.size : Int)) → (true = nameB a)))))))))))
set_option maxRecDepth 100000 in
set_option maxHeartbeats 2000000 in
theorem f58.of (a : ByteArray) (h : f58.vc a) : f58.tree a := br h Cnd.dec (fun h1 k116 => ⟨k116, trivial⟩) (fun h2 k117 => br k117 Cnd.dec (fun h4 k114 => ⟨k114, trivial⟩) (fun h5 k115 => chk k115.2 Cnd.ix ⟨(by decide), k115.1⟩ (fun h7 k113 => br k113 Cnd.eq (fun h8 k111 => ⟨k111, trivial⟩) (fun h9 k112 => Exists.elim k112 (fun I12 h108_ => Exists.elim h108_ (fun μ13 h108 => ⟨I12, μ13, ⟨(0 : Int), ⟨rfl, ⟨rfl, h108.1⟩⟩⟩, fun y14 h110 => br (h108.2 y14 h110) Cnd.dec (fun h15 k106 => chk k106.2.2 Cnd.ix ⟨k106.1, k106.2.1⟩ (fun h17 k104 => br k104 Cnd.dec (fun h18 k102 => br k102 Cnd.dec (fun h20 k54 => br k54 Cnd.ne (fun h22 k31 => ⟨k31, trivial⟩) (fun h23 k32 => wrapK.i64 k32 (fun h28 h29 k30 => ⟨(y14 + (1 : Int)), ⟨rfl, ⟨rfl, k30⟩⟩⟩))) (fun h21 k55 => br k55 Cnd.dec (fun h33 k52 => br k52 Cnd.ne (fun h35 k44 => ⟨k44, trivial⟩) (fun h36 k45 => wrapK.i64 k45 (fun h41 h42 k43 => ⟨(y14 + (1 : Int)), ⟨rfl, ⟨rfl, k43⟩⟩⟩))) (fun h34 k53 => wrapK.i64 k53 (fun h49 h50 k51 => ⟨(y14 + (1 : Int)), ⟨rfl, ⟨rfl, k51⟩⟩⟩)))) (fun h19 k103 => br k103 Cnd.dec (fun h56 k100 => br k100 Cnd.dec (fun h58 k92 => br k92 Cnd.ne (fun h60 k69 => ⟨k69, trivial⟩) (fun h61 k70 => wrapK.i64 k70 (fun h66 h67 k68 => ⟨(y14 + (1 : Int)), ⟨rfl, ⟨rfl, k68⟩⟩⟩))) (fun h59 k93 => br k93 Cnd.dec (fun h71 k90 => br k90 Cnd.ne (fun h73 k82 => ⟨k82, trivial⟩) (fun h74 k83 => wrapK.i64 k83 (fun h79 h80 k81 => ⟨(y14 + (1 : Int)), ⟨rfl, ⟨rfl, k81⟩⟩⟩))) (fun h72 k91 => wrapK.i64 k91 (fun h87 h88 k89 => ⟨(y14 + (1 : Int)), ⟨rfl, ⟨rfl, k89⟩⟩⟩)))) (fun h57 k101 => wrapK.i64 k101 (fun h97 h98 k99 => ⟨(y14 + (1 : Int)), ⟨rfl, ⟨rfl, k99⟩⟩⟩))))) (fun h16 k107 => ⟨k107, trivial⟩)⟩))))))
theorem f58.eq (a : ByteArray) : (f58.af a).gives f58.env (f58.args a) (f58.blks a) (f58.res a) (f58.blks' a) = f58.tree a := by kernel_rfl
end Go.Abs

-- interregnum/interregnumref04.Labels
namespace Go.Abs
open Go
def f59.args (a : List (T_api_Label)) : List D := [.slice .ro 2 a.length (gl e_api_Label a)]
def f59.blks (a : List (T_api_Label)) : List (List D) := []
def f59.res (a : List (T_api_Label)) : List D := [.bool (labelsB a)]
def f59.blks' (a : List (T_api_Label)) : List (List D) := []
def f59.C : Contract := FnC f59.args f59.blks (fun a => lbls_pre a) f59.res f59.blks'
end Go.Abs

/- interregnum/interregnumref04.Labels -/
namespace Go.Abs
open Go
set_option linter.unusedVariables false
def f59.kills (a : List (T_api_Label)) : List Hint := [.tell Int (fun x => ⟨[.slice .ro 2 a.length (gl e_api_Label a), .dead, .dead, .dead, .dead, .dead, .dead, .dead, .int .i64 (a.length : Int), .int .i64 x, .dead, .dead, .dead, .dead, .dead, .dead, .dead, .dead, .dead, .dead, .dead, .dead, .dead, .dead, .dead, .dead, .dead, .dead, .dead, .dead, .dead, .dead, .dead, .dead, .dead, .dead, .dead, .dead, .dead, .dead, .dead, .dead, .dead, .dead, .dead, .dead, .dead], [], []⟩)]
def f59.cuts (a : List (T_api_Label)) : List (Nat × Σ β : Type, β → Tm) := []
def f59.af (a : List (T_api_Label)) : AF := AF.mk (.seq (.region [⟨(some 2), 0, .move, [.c (.bool false)], none⟩])
 (.seq (.seq (.region [⟨(some 4), 1, .move, [.t 0], none⟩,
  ⟨(some 5), 2, (.len false), [.t 4], none⟩,
  ⟨(some 6), 3, (.bin .gtr), [.t 5, .c (.int .i64 (4))], none⟩])
 (.cond (.t 6) (.seq (.region [⟨(some 2), 4, .move, [.c (.bool false)], none⟩])
 (.ret)) (.skip)))
 (.seq (.seq (.region [⟨(some 7), 5, .move, [.t 0], none⟩,
  ⟨(some 8), 6, (.len false), [.t 7], none⟩,
  ⟨(some 9), 7, .move, [.c (.int .i64 (0))], none⟩])
 (.block 0 (.loopT Int (fun x => ⟨[.slice .ro 2 a.length (gl e_api_Label a), .dead, .dead, .dead, .dead, .dead, .dead, .dead, .int .i64 (a.length : Int), .int .i64 x, .dead, .dead, .dead, .dead, .dead, .dead, .dead, .dead, .dead, .dead, .dead, .dead, .dead, .dead, .dead, .dead, .dead, .dead, .dead, .dead, .dead, .dead, .dead, .dead, .dead, .dead, .dead, .dead, .dead, .dead, .dead, .dead, .dead, .dead, .dead, .dead, .dead], [], []⟩) 8 54 (.seq (.region [⟨(some 10), 8, (.bin .lss), [.t 9, .t 8], none⟩])
 (.seq (.cond (.t 10) (.skip) (.exit 0))
 (.seq (.block 1 (.seq (.region [⟨(some 11), 9, .move, [.t 9], none⟩,
  ⟨(some 3), 10, .move, [.t 11], none⟩])
 (.seq (.region [⟨(some 12), 11, .move, [.t 0], none⟩,
  ⟨(some 13), 12, .move, [.t 3], none⟩,
  ⟨(some 14), 13, (.indexAddr 2 none), [.t 12, .t 13], none⟩,
  ⟨(some 15), 14, (.fieldAddr 0), [.t 14], none⟩,
  ⟨(some 16), 15, (.load false 1), [.t 15], none⟩,
  ⟨(some 17), 16, (.call false 58), [.t 16], none⟩,
  ⟨(some 18), 20, (.un .not), [.t 17], none⟩,
  ⟨(some 19), 21, .move, [.t 18], none⟩,
  ⟨(some 20), 22, .move, [.t 0], (some (19, false))⟩,
  ⟨(some 21), 23, .move, [.t 3], (some (19, false))⟩,
  ⟨(some 22), 24, (.indexAddr 2 none), [.t 20, .t 21], (some (19, false))⟩,
  ⟨(some 23), 25, (.fieldAddr 1), [.t 22], (some (19, false))⟩,
  ⟨(some 24), 26, (.load false 1), [.t 23], (some (19, false))⟩,
  ⟨(some 25), 27, (.call false 58), [.t 24], (some (19, false))⟩,
  ⟨(some 26), 31, (.un .not), [.t 25], (some (19, false))⟩,
  ⟨(some 27), 32, .pick, [.t 19, .c (.bool true), .t 26], none⟩,
  ⟨(some 28), 33, .move, [.t 27], none⟩,
  ⟨(some 29), 34, .move, [.t 3], (some (28, false))⟩,
  ⟨(some 30), 35, (.bin .gtr), [.t 29, .c (.int .i64 (0))], (some (28, false))⟩,
  ⟨(some 31), 36, .move, [.t 30], (some (28, false))⟩,
  ⟨(some 32), 37, .move, [.t 0], (some (31, true))⟩,
  ⟨(some 33), 38, .move, [.t 3], (some (31, true))⟩,
  ⟨(some 34), 39, (.bin .sub), [.t 33, .c (.int .i64 (1))], (some (31, true))⟩,
  ⟨(some 35), 40, (.indexAddr 2 none), [.t 32, .t 34], (some (31, true))⟩,
  ⟨(some 36), 41, (.fieldAddr 0), [.t 35], (some (31, true))⟩,
  ⟨(some 37), 42, (.load false 1), [.t 36], (some (31, true))⟩,
  ⟨(some 38), 43, .move, [.t 0], (some (31, true))⟩,
  ⟨(some 39), 44, .move, [.t 3], (some (31, true))⟩,
  ⟨(some 40), 45, (.indexAddr 2 none), [.t 38, .t 39], (some (31, true))⟩,
  ⟨(some 41), 46, (.fieldAddr 0), [.t 40], (some (31, true))⟩,
  ⟨(some 42), 47, (.load false 1), [.t 41], (some (31, true))⟩,
  ⟨(some 43), 48, (.bin .geq), [.t 37, .t 42], (some (31, true))⟩,
  ⟨(some 44), 49, .pick, [.t 31, .t 43, .c (.bool false)], (some (28, false))⟩,
  ⟨(some 45), 50, .pick, [.t 28, .c (.bool true), .t 44], none⟩])
 (.cond (.t 45) (.seq (.region [⟨(some 2), 51, .move, [.c (.bool false)], none⟩])
 (.ret)) (.skip)))))
 (.region [⟨(some 46), 52, (.bin .add), [.t 9, .c (.int .i64 (1))], none⟩,
  ⟨(some 9), 53, .move, [.t 46], none⟩])))))))
 (.seq (.region [⟨(some 2), 54, .move, [.c (.bool true)], none⟩])
 (.ret)))))
  [.tmp 2] 0 46
def f59.env : Env := [(58, f58.C)]
def f59.tree (a : List (T_api_Label)) : Prop := Br (decide ((4 : Int) < (a.length : Int))) ((false = (labelsB a)) ∧ True) (∃ (I5 : Int → Prop) (μ6 : Int → Nat), (∃ x4 : Int, (a.length = a.length) ∧ (∀ i, i < a.length → DEqs ((gl e_api_Label a) i) ((gl e_api_Label a) i)) ∧ ((a.length : Int) = (a.length : Int)) ∧ ((0 : Int) = x4) ∧ I5 x4) ∧ ∀ y7 : Int, I5 y7 → (Br (decide (y7 < (a.length : Int))) (Br (decide ((0 : Int) ≤ y7) && decide (y7 < (a.length : Int))) (∃ c11 : ByteArray, (((at_ a y7).1) = c11) ∧ (name_pre c11) ∧ Br (!(nameB c11)) ((false = (labelsB a)) ∧ True) (Br (decide ((0 : Int) ≤ y7) && decide (y7 < (a.length : Int))) (∃ c16 : ByteArray, (((at_ a y7).2) = c16) ∧ (name_pre c16) ∧ Br (!(nameB c16)) ((false = (labelsB a)) ∧ True) (Br (decide ((0 : Int) < y7)) (Let (IntKind.i64.wrap (y7 - (1 : Int))) (fun v22 : Int => Br (decide ((0 : Int) ≤ v22) && decide (v22 < (a.length : Int))) (Br (decide ((0 : Int) ≤ y7) && decide (y7 < (a.length : Int))) (Br (!(Op.bytesLess ((at_ a v22).1).toList ((at_ a y7).1).toList)) ((false = (labelsB a)) ∧ True) (Let (IntKind.i64.wrap (y7 + (1 : Int))) (fun v28 : Int => ∃ x29 : Int, (a.length = a.length) ∧ (∀ i, i < a.length → DEqs ((gl e_api_Label a) i) ((gl e_api_Label a) i)) ∧ ((a.length : Int) = (a.length : Int)) ∧ (v28 = x29) ∧ I5 x29 ∧ μ6 x29 < μ6 y7))) False) False)) (Let (IntKind.i64.wrap (y7 + (1 : Int))) (fun v41 : Int => ∃ x42 : Int, (a.length = a.length) ∧ (∀ i, i < a.length → DEqs ((gl e_api_Label a) i) ((gl e_api_Label a) i)) ∧ ((a.length : Int) = (a.length : Int)) ∧ (v41 = x42) ∧ I5 x42 ∧ μ6 x42 < μ6 y7)))) False)) False) ((true = (labelsB a)) ∧ True)))
def f59.vc (a : List (T_api_Label)) : Prop := (((4 : Int) < (a.length : Int) → (false = labelsB a)) ∧ (¬ ((4 : Int) < (a.length : Int)) → (∃ (I5 : Int → Prop) (μ6 : Int → Nat), I5 (0 : Int) ∧ ∀ y7 : Int, I5 y7 → ((y7 < (a.length : Int) → ((0 : Int) ≤ y7 ∧ y7 < (a.length : Int) ∧ (name_pre ((at_ a y7).1) ∧ ((¬ ((nameB ((at_ a y7).1)) = true) → (false = labelsB a)) ∧ (¬ (¬ ((nameB ((at_ a y7).1)) = true)) → ((0 : Int) ≤ y7 ∧ y7 < (a.length : Int) ∧ (name_pre ((at_ a y7).2) ∧ ((¬ ((nameB ((at_ a y7).2)) = true) → (false = labelsB a)) ∧ (¬ (¬ ((nameB ((at_ a y7).2)) = true)) → (((0 : Int) < y7 → (-9223372036854775808 ≤ (y7 - (1 : Int)) ∧ (y7 - (1 : Int)) ≤ 9223372036854775807 ∧ ((0 : Int) ≤ (y7 - (1 : Int)) ∧ (y7 - (1 : Int)) < (a.length : Int) ∧ ((0 : Int) ≤ y7 ∧ y7 < (a.length : Int) ∧ ((¬ sLt ((at_ a (y7 - (1 : Int))).1) ((at_ a y7).1) → (false = labelsB a)) ∧ (¬ (¬ sLt ((at_ a (y7 - (1 : Int))).1) ((at_ a y7).1)) → (-9223372036854775808 ≤ (y7 + (1 : Int)) ∧ (y7 + (1 : Int)) ≤ 9223372036854775807 ∧ (I5 (y7 + (1 : Int)) ∧ μ6 (y7 + (1 : Int)) < μ6 y7)))))))) ∧ (¬ ((0 : Int) < y7) → (-9223372036854775808 ≤ (y7 + (1 : Int)) ∧ (y7 + (1 : Int)) ≤ 9223372036854775807 ∧ (I5 (y7 + (1 : Int)) ∧ μ6 (y7 + (1 : Int)) < μ6 y7))))))))))))) ∧ (¬ (y7 < (a.length : Int)) → (true = labelsB a))))))
set_option maxRecDepth 100000 in
set_option maxHeartbeats 2000000 in
theorem f59.of (a : List (T_api_Label)) (h : f59.vc a) : f59.tree a := br h Cnd.dec (fun h1 k63 => ⟨k63, trivial⟩) (fun h2 k64 => Exists.elim k64 (fun I5 h60_ => Exists.elim h60_ (fun μ6 h60 => ⟨I5, μ6, ⟨(0 : Int), slK (Rds.self (enc := e_api_Label)) (⟨rfl, ⟨rfl, h60.1⟩⟩)⟩, fun y7 h62 => br (h60.2 y7 h62) Cnd.dec (fun h8 k58 => chk k58.2.2 Cnd.ix ⟨k58.1, k58.2.1⟩ (fun h10 k56 => ⟨(at_ a y7).1, ⟨rfl, ⟨k56.1, br k56.2 (Cnd.not Cnd.b) (fun h12 k53 => ⟨k53, trivial⟩) (fun h13 k54 => chk k54.2.2 Cnd.ix ⟨k54.1, k54.2.1⟩ (fun h15 k52 => ⟨(at_ a y7).2, ⟨rfl, ⟨k52.1, br k52.2 (Cnd.not Cnd.b) (fun h17 k49 => ⟨k49, trivial⟩) (fun h18 k50 => br k50 Cnd.dec (fun h20 k47 => wrapK.i64 k47 (fun h38 h39 k40 => chk k40.2.2 Cnd.ix ⟨k40.1, k40.2.1⟩ (fun h23 k37 => chk k37.2.2 Cnd.ix ⟨k37.1, k37.2.1⟩ (fun h24 k36 => br k36 (Cnd.not Cnd.sl_) (fun h25 k34 => ⟨k34, trivial⟩) (fun h26 k35 => wrapK.i64 k35 (fun h31 h32 k33 => ⟨(y7 + (1 : Int)), slK (Rds.self (enc := e_api_Label)) (⟨rfl, ⟨rfl, k33⟩⟩)⟩)))))) (fun h21 k48 => wrapK.i64 k48 (fun h44 h45 k46 => ⟨(y7 + (1 : Int)), slK (Rds.self (enc := e_api_Label)) (⟨rfl, ⟨rfl, k46⟩⟩)⟩)))⟩⟩⟩))⟩⟩⟩)) (fun h9 k59 => ⟨k59, trivial⟩)⟩)))
theorem f59.eq (a : List (T_api_Label)) : (f59.af a).gives f59.env (f59.args a) (f59.blks a) (f59.res a) (f59.blks' a) = f59.tree a := by kernel_rfl
end Go.Abs

-- interregnum/interregnumref03.Right
namespace Go.Abs
open Go
def f55.args (a : T_ar3_i64) : List D := [.agg [.int .i64 a.1, .int .i64 a.2.1, .int .i64 a.2.2]]
def f55.blks (a : T_ar3_i64) : List (List D) := []
def f55.res (a : T_ar3_i64) : List D := [.bool (rightB a)]
def f55.blks' (a : T_ar3_i64) : List (List D) := []
def f55.C : Contract := FnC f55.args f55.blks (fun _ => True) f55.res f55.blks'
end Go.Abs

/- interregnum/interregnumref03.Right -/
namespace Go.Abs
open Go
set_option linter.unusedVariables false
def f55.kills (a : T_ar3_i64) : List Hint := [.unroll 4 [0, 2, 4, 5, 6, 7, 8, 9, 10, 11, 12, 17] [0] []]
def f55.cuts (a : T_ar3_i64) : List (Nat × Σ β : Type, β → Tm) := []
def f55.af (a : T_ar3_i64) : AF := AF.mk (.seq (.region [⟨(some 1), 0, .box, [.t 0], none⟩,
  ⟨(some 2), 1, .move, [.c (.bool false)], none⟩])
 (.seq (.seq (.region [⟨(some 3), 2, .move, [.c (.int .i64 (0))], none⟩])
 (.block 0 (.loop 4 [0, 2, 4, 5, 6, 7, 8, 9, 10, 11, 12, 17] [0] [] 3 19 (.seq (.seq (.region [⟨(some 4), 3, .move, [.t 3], none⟩,
  ⟨(some 5), 4, (.bin .lss), [.t 4, .c (.int .i64 (3))], none⟩])
 (.cond (.t 5) (.skip) (.exit 0)))
 (.seq (.block 1 (.seq (.region [⟨(some 8), 5, .move, [.t 3], none⟩,
  ⟨(some 9), 6, (.indexAddr 1 (some 3)), [.t 1, .t 8], none⟩,
  ⟨(some 10), 7, (.load false 1), [.t 9], none⟩,
  ⟨(some 11), 8, (.bin .lss), [.t 10, .c (.int .i64 (0))], none⟩,
  ⟨(some 12), 9, .move, [.t 11], none⟩,
  ⟨(some 13), 10, .move, [.t 3], (some (12, false))⟩,
  ⟨(some 14), 11, (.indexAddr 1 (some 3)), [.t 1, .t 13], (some (12, false))⟩,
  ⟨(some 15), 12, (.load false 1), [.t 14], (some (12, false))⟩,
  ⟨(some 16), 13, (.bin .gtr), [.t 15, .c (.int .i64 (1048576))], (some (12, false))⟩,
  ⟨(some 17), 14, .pick, [.t 12, .c (.bool true), .t 16], none⟩])
 (.cond (.t 17) (.seq (.region [⟨(some 2), 15, .move, [.c (.bool false)], none⟩])
 (.ret)) (.skip))))
 (.region [⟨(some 6), 16, .move, [.t 3], none⟩,
  ⟨(some 7), 17, (.bin .add), [.t 6, .c (.int .i64 (1))], none⟩,
  ⟨(some 3), 18, .move, [.t 7], none⟩]))))))
 (.seq (.region [⟨(some 2), 19, .move, [.c (.bool true)], none⟩])
 (.ret))))
  [.tmp 2] 0 17
def f55.env : Env := []
def f55.tree (a : T_ar3_i64) : Prop := Br (decide (a.1 < (0 : Int))) ((false = (rightB a)) ∧ True) (Br (decide ((1048576 : Int) < a.1)) ((false = (rightB a)) ∧ True) (Br (decide (a.2.1 < (0 : Int))) ((false = (rightB a)) ∧ True) (Br (decide ((1048576 : Int) < a.2.1)) ((false = (rightB a)) ∧ True) (Br (decide (a.2.2 < (0 : Int))) ((false = (rightB a)) ∧ True) (Br (decide ((1048576 : Int) < a.2.2)) ((false = (rightB a)) ∧ True) ((true = (rightB a)) ∧ True))))))
def f55.vc (a : T_ar3_i64) : Prop := ((a.1 < (0 : Int) → (false = rightB a)) ∧ (¬ (a.1 < (0 : Int)) → (((1048576 : Int) < a.1 → (false = rightB a)) ∧ (¬ ((1048576 : Int) < a.1) → ((a.2.1 < (0 : Int) → (false = rightB a)) ∧ (¬ (a.2.1 < (0 : Int)) → (((1048576 : Int) < a.2.1 → (false = rightB a)) ∧ (¬ ((1048576 : Int) < a.2.1) → ((a.2.2 < (0 : Int) → (false = rightB a)) ∧ (¬ (a.2.2 < (0 : Int)) → (((1048576 : Int) < a.2.2 → (false = rightB a)) ∧ (¬ ((1048576 : Int) < a.2.2) → (true = rightB a)))))))))))))
set_option maxRecDepth 100000 in
set_option maxHeartbeats 2000000 in
theorem f55.of (a : T_ar3_i64) (h : f55.vc a) : f55.tree a := br h Cnd.dec (fun h1 k30 => ⟨k30, trivial⟩) (fun h2 k31 => br k31 Cnd.dec (fun h4 k28 => ⟨k28, trivial⟩) (fun h5 k29 => br k29 Cnd.dec (fun h7 k26 => ⟨k26, trivial⟩) (fun h8 k27 => br k27 Cnd.dec (fun h10 k24 => ⟨k24, trivial⟩) (fun h11 k25 => br k25 Cnd.dec (fun h13 k22 => ⟨k22, trivial⟩) (fun h14 k23 => br k23 Cnd.dec (fun h16 k20 => ⟨k20, trivial⟩) (fun h17 k21 => ⟨k21, trivial⟩))))))
theorem f55.eq (a : T_ar3_i64) : (f55.af a).gives f55.env (f55.args a) (f55.blks a) (f55.res a) (f55.blks' a) = f55.tree a := by kernel_rfl
end Go.Abs

-- interregnum/model.Node
namespace Go.Abs
open Go
def f35.args (a : T_api_Node) : List D := [.agg [.str a.1, .int .i64 a.2.1.1, .int .i64 a.2.1.2.1, .int .i64 a.2.1.2.2, .slice .ro 2 a.2.2.length (gl e_api_Label a.2.2)]]
def f35.blks (a : T_api_Node) : List (List D) := []
def f35.res (a : T_api_Node) : List D := [.bool (nodeB a)]
def f35.blks' (a : T_api_Node) : List (List D) := []
def f35.C : Contract := FnC f35.args f35.blks (fun a => node_pre a) f35.res f35.blks'
end Go.Abs

/- interregnum/model.Node -/
namespace Go.Abs
open Go
set_option linter.unusedVariables false
def f35.kills (a : T_api_Node) : List Hint := []
def f35.cuts (a : T_api_Node) : List (Nat × Σ β : Type, β → Tm) := []
def f35.af (a : T_api_Node) : AF := AF.mk (.seq (.region [⟨(some 1), 0, .box, [.t 0], none⟩,
  ⟨(some 2), 1, .move, [.c (.bool false)], none⟩])
 (.seq (.region [⟨(some 3), 2, (.fieldAddr 0), [.t 1], none⟩,
  ⟨(some 4), 3, (.load false 1), [.t 3], none⟩,
  ⟨(some 5), 4, (.call false 48), [.t 4], none⟩,
  ⟨(some 6), 8, .move, [.t 5], none⟩,
  ⟨(some 7), 9, (.fieldAddr 1), [.t 1], (some (6, true))⟩,
  ⟨(some 8), 10, (.load true 3), [.t 7], (some (6, true))⟩,
  ⟨(some 9), 11, (.call false 49), [.t 8], (some (6, true))⟩,
  ⟨(some 10), 15, .pick, [.t 6, .t 9, .c (.bool false)], none⟩,
  ⟨(some 11), 16, .move, [.t 10], none⟩,
  ⟨(some 12), 17, (.fieldAddr 4), [.t 1], (some (11, true))⟩,
  ⟨(some 13), 18, (.load false 1), [.t 12], (some (11, true))⟩,
  ⟨(some 14), 19, (.call false 50), [.t 13], (some (11, true))⟩,
  ⟨(some 15), 23, .pick, [.t 11, .t 14, .c (.bool false)], none⟩,
  ⟨(some 2), 24, .move, [.t 15], none⟩])
 (.ret)))
  [.tmp 2] 0 15
def f35.env : Env := [(48, f48.C), (49, f49.C), (50, f50.C)]
def f35.tree (a : T_api_Node) : Prop := ∃ c1 : ByteArray, (a.1 = c1) ∧ (name_pre c1) ∧ Br (nameB c1) (∃ c4 : T_ar3_i64, (a.2.1.1 = c4.1) ∧ (a.2.1.2.1 = c4.2.1) ∧ (a.2.1.2.2 = c4.2.2) ∧ True ∧ Br (rightB c4) (∃ c7 : List (T_api_Label), (a.2.2.length = c7.length) ∧ (∀ i, i < c7.length → DEqs ((gl e_api_Label a.2.2) i) ((gl e_api_Label c7) i)) ∧ (lbls_pre c7) ∧ ((labelsB c7) = (nodeB a)) ∧ True) ((false = (nodeB a)) ∧ True)) ((false = (nodeB a)) ∧ True)
def f35.vc (a : T_api_Node) : Prop := (name_pre a.1 ∧ (((nameB (a.1)) = true → (((rightB (a.2.1)) = true → (lbls_pre a.2.2 ∧ ((labelsB (a.2.2)) = nodeB a))) ∧ (¬ ((rightB (a.2.1)) = true) → (false = nodeB a)))) ∧ (¬ ((nameB (a.1)) = true) → (false = nodeB a))))
set_option maxRecDepth 100000 in
set_option maxHeartbeats 2000000 in
theorem f35.of (a : T_api_Node) (h : f35.vc a) : f35.tree a := ⟨a.1, ⟨rfl, ⟨h.1, br h.2 Cnd.b (fun h2 k15 => ⟨a.2.1, ⟨rfl, ⟨rfl, ⟨rfl, ⟨trivial, br k15 Cnd.b (fun h5 k11 => ⟨a.2.2, slK (Rds.self (enc := e_api_Label)) (⟨k11.1, ⟨k11.2, trivial⟩⟩)⟩) (fun h6 k12 => ⟨k12, trivial⟩)⟩⟩⟩⟩⟩) (fun h3 k16 => ⟨k16, trivial⟩)⟩⟩⟩
theorem f35.eq (a : T_api_Node) : (f35.af a).gives f35.env (f35.args a) (f35.blks a) (f35.res a) (f35.blks' a) = f35.tree a := by kernel_rfl
end Go.Abs

-- interregnum/interregnumref05.Node
namespace Go.Abs
open Go
def f36.args (a : T_api_Node) : List D := [.agg [.str a.1, .int .i64 a.2.1.1, .int .i64 a.2.1.2.1, .int .i64 a.2.1.2.2, .slice .ro 2 a.2.2.length (gl e_api_Label a.2.2)]]
def f36.blks (a : T_api_Node) : List (List D) := []
def f36.res (a : T_api_Node) : List D := [.bool (nodeB a)]
def f36.blks' (a : T_api_Node) : List (List D) := []
def f36.C : Contract := FnC f36.args f36.blks (fun a => node_pre a) f36.res f36.blks'
end Go.Abs

/- interregnum/interregnumref05.Node -/
namespace Go.Abs
open Go
set_option linter.unusedVariables false
def f36.kills (a : T_api_Node) : List Hint := []
def f36.cuts (a : T_api_Node) : List (Nat × Σ β : Type, β → Tm) := []
def f36.af (a : T_api_Node) : AF := AF.mk (.seq (.region [⟨(some 1), 0, .box, [.t 0], none⟩,
  ⟨(some 2), 1, .move, [.c (.bool false)], none⟩])
 (.seq (.region [⟨(some 3), 2, (.fieldAddr 0), [.t 1], none⟩,
  ⟨(some 4), 3, (.load false 1), [.t 3], none⟩,
  ⟨(some 5), 4, (.call false 58), [.t 4], none⟩,
  ⟨(some 6), 8, .move, [.t 5], none⟩,
  ⟨(some 7), 9, (.fieldAddr 1), [.t 1], (some (6, true))⟩,
  ⟨(some 8), 10, (.load true 3), [.t 7], (some (6, true))⟩,
  ⟨(some 9), 11, (.call false 55), [.t 8], (some (6, true))⟩,
  ⟨(some 10), 15, .pick, [.t 6, .t 9, .c (.bool false)], none⟩,
  ⟨(some 11), 16, .move, [.t 10], none⟩,
  ⟨(some 12), 17, (.fieldAddr 4), [.t 1], (some (11, true))⟩,
  ⟨(some 13), 18, (.load false 1), [.t 12], (some (11, true))⟩,
  ⟨(some 14), 19, (.call false 59), [.t 13], (some (11, true))⟩,
  ⟨(some 15), 23, .pick, [.t 11, .t 14, .c (.bool false)], none⟩,
  ⟨(some 2), 24, .move, [.t 15], none⟩])
 (.ret)))
  [.tmp 2] 0 15
def f36.env : Env := [(58, f58.C), (55, f55.C), (59, f59.C)]
def f36.tree (a : T_api_Node) : Prop := ∃ c1 : ByteArray, (a.1 = c1) ∧ (name_pre c1) ∧ Br (nameB c1) (∃ c4 : T_ar3_i64, (a.2.1.1 = c4.1) ∧ (a.2.1.2.1 = c4.2.1) ∧ (a.2.1.2.2 = c4.2.2) ∧ True ∧ Br (rightB c4) (∃ c7 : List (T_api_Label), (a.2.2.length = c7.length) ∧ (∀ i, i < c7.length → DEqs ((gl e_api_Label a.2.2) i) ((gl e_api_Label c7) i)) ∧ (lbls_pre c7) ∧ ((labelsB c7) = (nodeB a)) ∧ True) ((false = (nodeB a)) ∧ True)) ((false = (nodeB a)) ∧ True)
def f36.vc (a : T_api_Node) : Prop := (name_pre a.1 ∧ (((nameB (a.1)) = true → (((rightB (a.2.1)) = true → (lbls_pre a.2.2 ∧ ((labelsB (a.2.2)) = nodeB a))) ∧ (¬ ((rightB (a.2.1)) = true) → (false = nodeB a)))) ∧ (¬ ((nameB (a.1)) = true) → (false = nodeB a))))
set_option maxRecDepth 100000 in
set_option maxHeartbeats 2000000 in
theorem f36.of (a : T_api_Node) (h : f36.vc a) : f36.tree a := ⟨a.1, ⟨rfl, ⟨h.1, br h.2 Cnd.b (fun h2 k15 => ⟨a.2.1, ⟨rfl, ⟨rfl, ⟨rfl, ⟨trivial, br k15 Cnd.b (fun h5 k11 => ⟨a.2.2, slK (Rds.self (enc := e_api_Label)) (⟨k11.1, ⟨k11.2, trivial⟩⟩)⟩) (fun h6 k12 => ⟨k12, trivial⟩)⟩⟩⟩⟩⟩) (fun h3 k16 => ⟨k16, trivial⟩)⟩⟩⟩
theorem f36.eq (a : T_api_Node) : (f36.af a).gives f36.env (f36.args a) (f36.blks a) (f36.res a) (f36.blks' a) = f36.tree a := by kernel_rfl
end Go.Abs

-- interregnum/interregnumref05.Queue
namespace Go.Abs
open Go
def f37.args (a : T_api_Queue) : List D := [.agg [.str a.1, .int .i64 a.2.1, .int .i64 a.2.2.1, .int .i64 a.2.2.2]]
def f37.blks (a : T_api_Queue) : List (List D) := []
def f37.res (a : T_api_Queue) : List D := [.bool (queueB a)]
def f37.blks' (a : T_api_Queue) : List (List D) := []
def f37.C : Contract := FnC f37.args f37.blks (fun a => queue_pre a) f37.res f37.blks'
end Go.Abs

/- interregnum/interregnumref05.Queue -/
namespace Go.Abs
open Go
set_option linter.unusedVariables false
def f37.kills (a : T_api_Queue) : List Hint := []
def f37.cuts (a : T_api_Queue) : List (Nat × Σ β : Type, β → Tm) := []
def f37.af (a : T_api_Queue) : AF := AF.mk (.seq (.region [⟨(some 1), 0, .box, [.t 0], none⟩,
  ⟨(some 2), 1, .move, [.c (.bool false)], none⟩])
 (.seq (.region [⟨(some 3), 2, (.fieldAddr 0), [.t 1], none⟩,
  ⟨(some 4), 3, (.load false 1), [.t 3], none⟩,
  ⟨(some 5), 4, (.call false 58), [.t 4], none⟩,
  ⟨(some 6), 8, .move, [.t 5], none⟩,
  ⟨(some 7), 9, (.fieldAddr 1), [.t 1], (some (6, true))⟩,
  ⟨(some 8), 10, (.load true 3), [.t 7], (some (6, true))⟩,
  ⟨(some 9), 11, (.call false 55), [.t 8], (some (6, true))⟩,
  ⟨(some 10), 15, .pick, [.t 6, .t 9, .c (.bool false)], none⟩,
  ⟨(some 2), 16, .move, [.t 10], none⟩])
 (.ret)))
  [.tmp 2] 0 10
def f37.env : Env := [(58, f58.C), (55, f55.C)]
def f37.tree (a : T_api_Queue) : Prop := ∃ c1 : ByteArray, (a.1 = c1) ∧ (name_pre c1) ∧ Br (nameB c1) (∃ c4 : T_ar3_i64, (a.2.1 = c4.1) ∧ (a.2.2.1 = c4.2.1) ∧ (a.2.2.2 = c4.2.2) ∧ True ∧ ((rightB c4) = (queueB a)) ∧ True) ((false = (queueB a)) ∧ True)
def f37.vc (a : T_api_Queue) : Prop := (name_pre a.1 ∧ (((nameB (a.1)) = true → ((rightB (a.2)) = queueB a)) ∧ (¬ ((nameB (a.1)) = true) → (false = queueB a))))
set_option maxRecDepth 100000 in
set_option maxHeartbeats 2000000 in
theorem f37.of (a : T_api_Queue) (h : f37.vc a) : f37.tree a := ⟨a.1, ⟨rfl, ⟨h.1, br h.2 Cnd.b (fun h2 k8 => ⟨a.2, ⟨rfl, ⟨rfl, ⟨rfl, ⟨trivial, ⟨k8, trivial⟩⟩⟩⟩⟩⟩) (fun h3 k9 => ⟨k9, trivial⟩)⟩⟩⟩
theorem f37.eq (a : T_api_Queue) : (f37.af a).gives f37.env (f37.args a) (f37.blks a) (f37.res a) (f37.blks' a) = f37.tree a := by kernel_rfl
end Go.Abs

-- interregnum/interregnumref05.Task
namespace Go.Abs
open Go
def f38.args (a : T_api_Task) : List D := [.agg [.str a.1, .str a.2.1, .int .i64 a.2.2.1, .int .i64 a.2.2.2.1.1, .int .i64 a.2.2.2.1.2.1, .int .i64 a.2.2.2.1.2.2, .slice .ro 2 a.2.2.2.2.1.length (gl e_api_Label a.2.2.2.2.1), .str a.2.2.2.2.2.1, .str a.2.2.2.2.2.2.1, .int .i64 a.2.2.2.2.2.2.2]]
def f38.blks (a : T_api_Task) : List (List D) := []
def f38.res (a : T_api_Task) : List D := [.bool (taskB a)]
def f38.blks' (a : T_api_Task) : List (List D) := []
def f38.C : Contract := FnC f38.args f38.blks (fun a => task_pre a) f38.res f38.blks'
end Go.Abs

/- interregnum/interregnumref05.Task -/
namespace Go.Abs
open Go
set_option linter.unusedVariables false
def f38.kills (a : T_api_Task) : List Hint := []
def f38.cuts (a : T_api_Task) : List (Nat × Σ β : Type, β → Tm) := []
def f38.af (a : T_api_Task) : AF := AF.mk (.seq (.region [⟨(some 1), 0, .box, [.t 0], none⟩,
  ⟨(some 2), 1, .move, [.c (.bool false)], none⟩])
 (.seq (.seq (.region [⟨(some 3), 2, (.fieldAddr 0), [.t 1], none⟩,
  ⟨(some 4), 3, (.load false 1), [.t 3], none⟩,
  ⟨(some 5), 4, (.call false 58), [.t 4], none⟩,
  ⟨(some 6), 8, (.un .not), [.t 5], none⟩,
  ⟨(some 7), 9, .move, [.t 6], none⟩,
  ⟨(some 8), 10, (.fieldAddr 1), [.t 1], (some (7, false))⟩,
  ⟨(some 9), 11, (.load false 1), [.t 8], (some (7, false))⟩,
  ⟨(some 10), 12, (.call false 58), [.t 9], (some (7, false))⟩,
  ⟨(some 11), 16, (.un .not), [.t 10], (some (7, false))⟩,
  ⟨(some 12), 17, .pick, [.t 7, .c (.bool true), .t 11], none⟩,
  ⟨(some 13), 18, .move, [.t 12], none⟩,
  ⟨(some 14), 19, (.fieldAddr 2), [.t 1], (some (13, false))⟩,
  ⟨(some 15), 20, (.load false 1), [.t 14], (some (13, false))⟩,
  ⟨(some 16), 21, (.bin .lss), [.t 15, .c (.int .i64 (0))], (some (13, false))⟩,
  ⟨(some 17), 22, .pick, [.t 13, .c (.bool true), .t 16], none⟩,
  ⟨(some 18), 23, .move, [.t 17], none⟩,
  ⟨(some 19), 24, (.fieldAddr 2), [.t 1], (some (18, false))⟩,
  ⟨(some 20), 25, (.load false 1), [.t 19], (some (18, false))⟩,
  ⟨(some 21), 26, (.bin .gtr), [.t 20, .c (.int .i64 (9))], (some (18, false))⟩,
  ⟨(some 22), 27, .pick, [.t 18, .c (.bool true), .t 21], none⟩,
  ⟨(some 23), 28, .move, [.t 22], none⟩,
  ⟨(some 24), 29, (.fieldAddr 3), [.t 1], (some (23, false))⟩,
  ⟨(some 25), 30, (.load true 3), [.t 24], (some (23, false))⟩,
  ⟨(some 26), 31, (.call false 55), [.t 25], (some (23, false))⟩,
  ⟨(some 27), 35, (.un .not), [.t 26], (some (23, false))⟩,
  ⟨(some 28), 36, .pick, [.t 23, .c (.bool true), .t 27], none⟩,
  ⟨(some 29), 37, .move, [.t 28], none⟩,
  ⟨(some 30), 38, (.fieldAddr 6), [.t 1], (some (29, false))⟩,
  ⟨(some 31), 39, (.load false 1), [.t 30], (some (29, false))⟩,
  ⟨(some 32), 40, (.call false 59), [.t 31], (some (29, false))⟩,
  ⟨(some 33), 44, (.un .not), [.t 32], (some (29, false))⟩,
  ⟨(some 34), 45, .pick, [.t 29, .c (.bool true), .t 33], none⟩])
 (.cond (.t 34) (.seq (.region [⟨(some 2), 46, .move, [.c (.bool false)], none⟩])
 (.ret)) (.skip)))
 (.seq (.seq (.region [⟨(some 35), 47, (.fieldAddr 7), [.t 1], none⟩,
  ⟨(some 36), 48, (.load false 1), [.t 35], none⟩,
  ⟨(some 37), 49, (.bin .neq), [.t 36, .c (.str ByteArray.empty)], none⟩,
  ⟨(some 38), 50, .move, [.t 37], none⟩,
  ⟨(some 39), 51, (.fieldAddr 7), [.t 1], (some (38, true))⟩,
  ⟨(some 40), 52, (.load false 1), [.t 39], (some (38, true))⟩,
  ⟨(some 41), 53, (.call false 58), [.t 40], (some (38, true))⟩,
  ⟨(some 42), 57, (.un .not), [.t 41], (some (38, true))⟩,
  ⟨(some 43), 58, .pick, [.t 38, .t 42, .c (.bool false)], none⟩])
 (.cond (.t 43) (.seq (.region [⟨(some 2), 59, .move, [.c (.bool false)], none⟩])
 (.ret)) (.skip)))
 (.seq (.seq (.region [⟨(some 44), 60, (.fieldAddr 8), [.t 1], none⟩,
  ⟨(some 45), 61, (.load false 1), [.t 44], none⟩,
  ⟨(some 46), 62, (.bin .eql), [.t 45, .c (.str ByteArray.empty)], none⟩])
 (.cond (.t 46) (.seq (.region [⟨(some 47), 63, (.fieldAddr 9), [.t 1], none⟩,
  ⟨(some 48), 64, (.load false 1), [.t 47], none⟩,
  ⟨(some 49), 65, (.bin .eql), [.t 48, .c (.int .i64 (0))], none⟩,
  ⟨(some 2), 66, .move, [.t 49], none⟩])
 (.ret)) (.skip)))
 (.seq (.region [⟨(some 50), 67, (.fieldAddr 8), [.t 1], none⟩,
  ⟨(some 51), 68, (.load false 1), [.t 50], none⟩,
  ⟨(some 52), 69, (.call false 58), [.t 51], none⟩,
  ⟨(some 53), 73, .move, [.t 52], none⟩,
  ⟨(some 54), 74, (.fieldAddr 9), [.t 1], (some (53, true))⟩,
  ⟨(some 55), 75, (.load false 1), [.t 54], (some (53, true))⟩,
  ⟨(some 56), 76, (.bin .geq), [.t 55, .c (.int .i64 (2))], (some (53, true))⟩,
  ⟨(some 57), 77, .pick, [.t 53, .t 56, .c (.bool false)], none⟩,
  ⟨(some 58), 78, .move, [.t 57], none⟩,
  ⟨(some 59), 79, (.fieldAddr 9), [.t 1], (some (58, true))⟩,
  ⟨(some 60), 80, (.load false 1), [.t 59], (some (58, true))⟩,
  ⟨(some 61), 81, (.bin .leq), [.t 60, .c (.int .i64 (4))], (some (58, true))⟩,
  ⟨(some 62), 82, .pick, [.t 58, .t 61, .c (.bool false)], none⟩,
  ⟨(some 2), 83, .move, [.t 62], none⟩])
 (.ret))))))
  [.tmp 2] 0 62
def f38.env : Env := [(58, f58.C), (55, f55.C), (59, f59.C)]
def f38.tree (a : T_api_Task) : Prop := ∃ c1 : ByteArray, (a.1 = c1) ∧ (name_pre c1) ∧ Br (!(nameB c1)) ((false = (taskB a)) ∧ True) (∃ c5 : ByteArray, (a.2.1 = c5) ∧ (name_pre c5) ∧ Br (!(nameB c5)) ((false = (taskB a)) ∧ True) (Br (decide (a.2.2.1 < (0 : Int))) ((false = (taskB a)) ∧ True) (Br (decide ((9 : Int) < a.2.2.1)) ((false = (taskB a)) ∧ True) (∃ c15 : T_ar3_i64, (a.2.2.2.1.1 = c15.1) ∧ (a.2.2.2.1.2.1 = c15.2.1) ∧ (a.2.2.2.1.2.2 = c15.2.2) ∧ True ∧ Br (!(rightB c15)) ((false = (taskB a)) ∧ True) (∃ c19 : List (T_api_Label), (a.2.2.2.2.1.length = c19.length) ∧ (∀ i, i < c19.length → DEqs ((gl e_api_Label a.2.2.2.2.1) i) ((gl e_api_Label c19) i)) ∧ (lbls_pre c19) ∧ Br (!(labelsB c19)) ((false = (taskB a)) ∧ True) (Br (!(a.2.2.2.2.2.1.toList == ByteArray.empty.toList)) (∃ c25 : ByteArray, (a.2.2.2.2.2.1 = c25) ∧ (name_pre c25) ∧ Br (!(nameB c25)) ((false = (taskB a)) ∧ True) (Br (a.2.2.2.2.2.2.1.toList == ByteArray.empty.toList) (((a.2.2.2.2.2.2.2 == (0 : Int)) = (taskB a)) ∧ True) (∃ c32 : ByteArray, (a.2.2.2.2.2.2.1 = c32) ∧ (name_pre c32) ∧ Br (nameB c32) (Br (decide ((2 : Int) ≤ a.2.2.2.2.2.2.2)) (((decide (a.2.2.2.2.2.2.2 ≤ (4 : Int))) = (taskB a)) ∧ True) ((false = (taskB a)) ∧ True)) ((false = (taskB a)) ∧ True)))) (Br (a.2.2.2.2.2.2.1.toList == ByteArray.empty.toList) (((a.2.2.2.2.2.2.2 == (0 : Int)) = (taskB a)) ∧ True) (∃ c53 : ByteArray, (a.2.2.2.2.2.2.1 = c53) ∧ (name_pre c53) ∧ Br (nameB c53) (Br (decide ((2 : Int) ≤ a.2.2.2.2.2.2.2)) (((decide (a.2.2.2.2.2.2.2 ≤ (4 : Int))) = (taskB a)) ∧ True) ((false = (taskB a)) ∧ True)) ((false = (taskB a)) ∧ True)))))))))
def f38.vc (a : T_api_Task) : Prop := (name_pre a.1 ∧ ((¬ ((nameB (a.1)) = true) → (false = taskB a)) ∧ (¬ (¬ ((nameB (a.1)) = true)) → (name_pre a.2.1 ∧ ((¬ ((nameB (a.2.1)) = true) → (false = taskB a)) ∧ (¬ (¬ ((nameB (a.2.1)) = true)) → ((a.2.2.1 < (0 : Int) → (false = taskB a)) ∧ (¬ (a.2.2.1 < (0 : Int)) → (((9 : Int) < a.2.2.1 → (false = taskB a)) ∧ (¬ ((9 : Int) < a.2.2.1) → ((¬ ((rightB (a.2.2.2.1)) = true) → (false = taskB a)) ∧ (¬ (¬ ((rightB (a.2.2.2.1)) = true)) → (lbls_pre a.2.2.2.2.1 ∧ ((¬ ((labelsB (a.2.2.2.2.1)) = true) → (false = taskB a)) ∧ (¬ (¬ ((labelsB (a.2.2.2.2.1)) = true)) → ((¬ (a.2.2.2.2.2.1 = ByteArray.empty) → (name_pre a.2.2.2.2.2.1 ∧ ((¬ ((nameB (a.2.2.2.2.2.1)) = true) → (false = taskB a)) ∧ (¬ (¬ ((nameB (a.2.2.2.2.2.1)) = true)) → ((a.2.2.2.2.2.2.1 = ByteArray.empty → ((a.2.2.2.2.2.2.2 == (0 : Int)) = taskB a)) ∧ (¬ (a.2.2.2.2.2.2.1 = ByteArray.empty) → (name_pre a.2.2.2.2.2.2.1 ∧ (((nameB (a.2.2.2.2.2.2.1)) = true → (((2 : Int) ≤ a.2.2.2.2.2.2.2 → (decide (a.2.2.2.2.2.2.2 ≤ (4 : Int)) = taskB a)) ∧ (¬ ((2 : Int) ≤ a.2.2.2.2.2.2.2) → (false = taskB a)))) ∧ (¬ ((nameB (a.2.2.2.2.2.2.1)) = true) → (false = taskB a)))))))))) ∧ (¬ (¬ (a.2.2.2.2.2.1 = ByteArray.empty)) → ((a.2.2.2.2.2.2.1 = ByteArray.empty → ((a.2.2.2.2.2.2.2 == (0 : Int)) = taskB a)) ∧ (¬ (a.2.2.2.2.2.2.1 = ByteArray.empty) → (name_pre a.2.2.2.2.2.2.1 ∧ (((nameB (a.2.2.2.2.2.2.1)) = true → (((2 : Int) ≤ a.2.2.2.2.2.2.2 → (decide (a.2.2.2.2.2.2.2 ≤ (4 : Int)) = taskB a)) ∧ (¬ ((2 : Int) ≤ a.2.2.2.2.2.2.2) → (false = taskB a)))) ∧ (¬ ((nameB (a.2.2.2.2.2.2.1)) = true) → (false = taskB a)))))))))))))))))))))))
set_option maxRecDepth 100000 in
set_option maxHeartbeats 2000000 in
theorem f38.of (a : T_api_Task) (h : f38.vc a) : f38.tree a := ⟨a.1, ⟨rfl, ⟨h.1, br h.2 (Cnd.not Cnd.b) (fun h2 k83 => ⟨k83, trivial⟩) (fun h3 k84 => ⟨a.2.1, ⟨rfl, ⟨k84.1, br k84.2 (Cnd.not Cnd.b) (fun h6 k80 => ⟨k80, trivial⟩) (fun h7 k81 => br k81 Cnd.dec (fun h9 k78 => ⟨k78, trivial⟩) (fun h10 k79 => br k79 Cnd.dec (fun h12 k76 => ⟨k76, trivial⟩) (fun h13 k77 => ⟨a.2.2.2.1, ⟨rfl, ⟨rfl, ⟨rfl, ⟨trivial, br k77 (Cnd.not Cnd.b) (fun h16 k73 => ⟨k73, trivial⟩) (fun h17 k74 => ⟨a.2.2.2.2.1, slK (Rds.self (enc := e_api_Label)) (⟨k74.1, br k74.2 (Cnd.not Cnd.b) (fun h20 k70 => ⟨k70, trivial⟩) (fun h21 k71 => br k71 (Cnd.not Cnd.seq) (fun h23 k68 => ⟨a.2.2.2.2.2.1, ⟨rfl, ⟨k68.1, br k68.2 (Cnd.not Cnd.b) (fun h26 k47 => ⟨k47, trivial⟩) (fun h27 k48 => br k48 Cnd.seq (fun h29 k45 => ⟨k45, trivial⟩) (fun h30 k46 => ⟨a.2.2.2.2.2.2.1, ⟨rfl, ⟨k46.1, br k46.2 Cnd.b (fun h33 k42 => br k42 Cnd.dec (fun h35 k39 => ⟨k39, trivial⟩) (fun h36 k40 => ⟨k40, trivial⟩)) (fun h34 k43 => ⟨k43, trivial⟩)⟩⟩⟩))⟩⟩⟩) (fun h24 k69 => br k69 Cnd.seq (fun h50 k66 => ⟨k66, trivial⟩) (fun h51 k67 => ⟨a.2.2.2.2.2.2.1, ⟨rfl, ⟨k67.1, br k67.2 Cnd.b (fun h54 k63 => br k63 Cnd.dec (fun h56 k60 => ⟨k60, trivial⟩) (fun h57 k61 => ⟨k61, trivial⟩)) (fun h55 k64 => ⟨k64, trivial⟩)⟩⟩⟩)))⟩)⟩)⟩⟩⟩⟩⟩)))⟩⟩⟩)⟩⟩⟩
theorem f38.eq (a : T_api_Task) : (f38.af a).gives f38.env (f38.args a) (f38.blks a) (f38.res a) (f38.blks' a) = f38.tree a := by kernel_rfl
end Go.Abs

/- Names, labels, tasks: what the code asks is so. -/
namespace Go.Abs
open Go

theorem nameB_false {s : ByteArray} (h : nameB s ≠ true) : false = nameB s := by
  cases hh : nameB s with
  | false => rfl
  | true => exact absurd hh h

theorem f48.ok (a : ByteArray) (h : name_pre a) : f48.vc a := by
  unfold f48.vc
  refine ⟨fun h0 => ⟨fun h1 => ⟨?_, fun h2 => ⟨h, ?_⟩, fun h2 => ?_⟩, fun h1 => ?_⟩, fun h0 => ?_⟩
  · have : a.size ≠ 0 := fun hh => h0 (size_zero.2 hh)
    omega
  · have hs : 1 ≤ a.size := by
      have : a.size ≠ 0 := fun hh => h0 (size_zero.2 hh)
      omega
    rw [Bool.eq_iff_iff, Bool.not_eq_true', hasOdd_not, nameB_iff]
    exact ⟨fun h3 => ⟨hs, by omega, h2, h3⟩, fun h3 => h3.2.2.2⟩
  · exact nameB_false fun hh => h2 (nameB_iff.1 hh).2.2.1
  · exact nameB_false fun hh => by have := (nameB_iff.1 hh).2.1; omega
  · have h0 := Classical.not_not.1 h0
    exact nameB_false fun hh => by have := (nameB_iff.1 hh).1; rw [size_zero.1 h0] at this; omega

theorem f58.ok (a : ByteArray) (h : name_pre a) : f58.vc a := by
  unfold name_pre at h
  unfold f58.vc
  refine ⟨fun h0 => nameB_false fun hh => by have := (nameB_iff.1 hh).1; omega, fun h0 => ⟨fun h1 => nameB_false fun hh => by have := (nameB_iff.1 hh).2.1; omega, fun h1 => ⟨by omega, fun h2 => nameB_false fun hh => (nameB_iff.1 hh).2.2.1 h2, fun h2 => ?_⟩⟩⟩
  refine ⟨fun y => 0 ≤ y ∧ y ≤ (a.size : Int) ∧ ∀ (i : Nat) (x : UInt8), i < y.toNat → a.data.toList[i]? = some x → ltr x = true, fun y => a.size - y.toNat, ⟨by omega, by omega, fun i x hi => by simp at hi⟩, fun y hy => ?_⟩
  obtain ⟨g0, g1, g2⟩ := hy
  have hlen := data_length a
  refine ⟨fun hlt => ⟨g0, hlt, ?_⟩, fun hge => ?_⟩
  · have hp : y.toNat < a.data.toList.length := by omega
    have hb : bAt a y = ((a.data.toList[y.toNat]'hp).toNat : Int) := by unfold bAt; rw [nth_lt _ _ hp]
    have hbad : ¬ ltr (a.data.toList[y.toNat]'hp) = true → false = nameB a := fun hn => nameB_false fun hh => hn ((nameB_iff.1 hh).2.2.2 y.toNat _ (List.getElem?_eq_getElem hp))
    have hgood : ltr (a.data.toList[y.toNat]'hp) = true → -9223372036854775808 ≤ (y + (1 : Int)) ∧ (y + (1 : Int)) ≤ 9223372036854775807 ∧ (0 ≤ y + 1 ∧ y + 1 ≤ (a.size : Int) ∧ ∀ (i : Nat) (x : UInt8), i < (y + 1).toNat → a.data.toList[i]? = some x → ltr x = true) ∧ a.size - (y + 1).toNat < a.size - y.toNat := fun hg => by
      refine ⟨by omega, by omega, ⟨by omega, by omega, fun i x hi hx => ?_⟩, by omega⟩
      by_cases he : i = y.toNat
      · subst he
        rw [List.getElem?_eq_getElem hp] at hx
        cases hx
        exact hg
      · exact g2 i x (by omega) hx
    rw [ltr_iff] at hbad hgood
    generalize a.data.toList[y.toNat]'hp = x at hb hbad hgood
    rw [hb]
    refine ⟨fun c1 => ⟨fun c2 => ⟨fun c3 => hbad (by omega), fun c3 => hgood (by omega)⟩, fun c2 => ⟨fun c3 => ⟨fun c4 => hbad (by omega), fun c4 => hgood (by omega)⟩, fun c3 => hgood (by omega)⟩⟩,
      fun c1 => ⟨fun c2 => ⟨fun c3 => ⟨fun c4 => hbad (by omega), fun c4 => hgood (by omega)⟩, fun c3 => ⟨fun c4 => ⟨fun c5 => hbad (by omega), fun c5 => hgood (by omega)⟩, fun c4 => hgood (by omega)⟩⟩, fun c2 => hgood (by omega)⟩⟩
  · symm
    rw [nameB_iff]
    exact ⟨by omega, by omega, h2, fun i x hx => g2 i x (by have := (List.getElem?_eq_some_iff.1 hx).1; omega) hx⟩

theorem labelsB_false {l : List TLbl} (h : labelsB l ≠ true) : false = labelsB l := by
  cases hh : labelsB l with
  | false => rfl
  | true => exact absurd hh h

theorem lblAt_iff {l : List TLbl} {i : Nat} : lblAt l i = true ↔ nameB (l.getD i default).1 = true ∧ nameB (l.getD i default).2 = true ∧ (i = 0 ∨ sLt (l.getD (i - 1) default).1 (l.getD i default).1) := by
  unfold lblAt
  simp only [Bool.and_eq_true, Bool.or_eq_true, beq_iff_eq, and_assoc, slt_iff]

theorem f50.ok (a : List TLbl) (h : lbls_pre a) : f50.vc a := by
  unfold f50.vc
  refine ⟨fun h0 => labelsB_false fun hh => by have := (labelsB_iff.1 hh).1; omega, fun h0 => ?_⟩
  refine ⟨fun y => 0 ≤ y.2 ∧ y.2 ≤ (a.length : Int) ∧ (∀ i, i < y.2.toNat → lblAt a i = true) ∧ (0 < y.2 → y.1 = (at_ a (y.2 - 1)).1), fun y => a.length - y.2.toNat, ⟨by simp only; omega, by simp only; omega, fun i hi => by simp at hi, fun h => by simp at h⟩, fun y hy => ?_⟩
  obtain ⟨last, y⟩ := y
  obtain ⟨g0, g1, g2, g3⟩ := hy
  simp only at g0 g1 g2 g3 ⊢
  refine ⟨fun hlt => ?_, fun hge => ?_⟩
  · obtain ⟨n1, n2⟩ := h _ (at_mem g0 hlt)
    have hbad : ¬ lblAt a y.toNat = true → false = labelsB a := fun hn => labelsB_false fun hh => hn ((labelsB_iff.1 hh).2 _ (by omega))
    have hgood : lblAt a y.toNat = true → -9223372036854775808 ≤ (y + (1 : Int)) ∧ (y + (1 : Int)) ≤ 9223372036854775807 ∧ (0 ≤ y + 1 ∧ y + 1 ≤ (a.length : Int) ∧ (∀ i, i < (y + 1).toNat → lblAt a i = true) ∧ (0 < y + 1 → (at_ a y).1 = (at_ a (y + 1 - 1)).1)) ∧ a.length - (y + 1).toNat < a.length - y.toNat := fun hg => by
      refine ⟨by omega, by omega, ⟨by omega, by omega, fun i hi => ?_, fun _ => by rw [Int.add_sub_cancel]⟩, by omega⟩
      by_cases he : i = y.toNat
      · subst he; exact hg
      · exact g2 i (by omega)
    rw [lblAt_iff, ← at_getD] at hbad hgood
    have hprev : 0 < y → (a.getD (y.toNat - 1) default) = at_ a (y - 1) := fun _ => by unfold at_; congr 1; omega
    refine ⟨g0, hlt, n1, fun c1 => hbad fun hh => c1 hh.1, fun c1 => ⟨n2, fun c2 => hbad fun hh => c2 hh.2.1, fun c2 => ⟨fun c3 => ⟨fun c4 => ?_, fun c4 => ?_⟩, fun c3 => ?_⟩⟩⟩
    · refine hbad fun hh => ?_
      rcases hh.2.2 with h1 | h1
      · omega
      · rw [hprev c3, ← g3 c3] at h1
        have := slt_not.2 c4
        rw [slt_iff.2 h1] at this
        cases this
    · refine hgood ⟨Classical.not_not.1 c1, Classical.not_not.1 c2, .inr ?_⟩
      rw [hprev c3, ← g3 c3]
      cases hh : slt last (at_ a y).1 with
      | true => exact slt_iff.1 hh
      | false => exact absurd (slt_not.1 hh) c4
    · exact hgood ⟨Classical.not_not.1 c1, Classical.not_not.1 c2, .inl (by omega)⟩
  · symm
    rw [labelsB_iff]
    exact ⟨by omega, fun i hi => g2 i (by omega)⟩

theorem f59.ok (a : List TLbl) (h : lbls_pre a) : f59.vc a := by
  unfold f59.vc
  refine ⟨fun h0 => labelsB_false fun hh => by have := (labelsB_iff.1 hh).1; omega, fun h0 => ?_⟩
  refine ⟨fun y => 0 ≤ y ∧ y ≤ (a.length : Int) ∧ (∀ i, i < y.toNat → lblAt a i = true), fun y => a.length - y.toNat, ⟨by omega, by omega, fun i hi => by simp at hi⟩, fun y hy => ?_⟩
  obtain ⟨g0, g1, g2⟩ := hy
  refine ⟨fun hlt => ?_, fun hge => ?_⟩
  · obtain ⟨n1, n2⟩ := h _ (at_mem g0 hlt)
    have hbad : ¬ lblAt a y.toNat = true → false = labelsB a := fun hn => labelsB_false fun hh => hn ((labelsB_iff.1 hh).2 _ (by omega))
    have hgood : lblAt a y.toNat = true → -9223372036854775808 ≤ (y + (1 : Int)) ∧ (y + (1 : Int)) ≤ 9223372036854775807 ∧ (0 ≤ y + 1 ∧ y + 1 ≤ (a.length : Int) ∧ (∀ i, i < (y + 1).toNat → lblAt a i = true)) ∧ a.length - (y + 1).toNat < a.length - y.toNat := fun hg => by
      refine ⟨by omega, by omega, ⟨by omega, by omega, fun i hi => ?_⟩, by omega⟩
      by_cases he : i = y.toNat
      · subst he; exact hg
      · exact g2 i (by omega)
    rw [lblAt_iff, ← at_getD] at hbad hgood
    have hprev : 0 < y → (a.getD (y.toNat - 1) default) = at_ a (y - 1) := fun _ => by unfold at_; congr 1; omega
    refine ⟨g0, hlt, n1, fun c1 => hbad fun hh => c1 hh.1, fun c1 => ⟨g0, hlt, n2, fun c2 => hbad fun hh => c2 hh.2.1, fun c2 => ⟨fun c3 => ⟨by omega, by omega, by omega, by omega, g0, hlt, fun c4 => ?_, fun c4 => ?_⟩, fun c3 => ?_⟩⟩⟩
    · refine hbad fun hh => ?_
      rcases hh.2.2 with h1 | h1
      · omega
      · rw [hprev c3] at h1
        exact c4 h1
    · refine hgood ⟨Classical.not_not.1 c1, Classical.not_not.1 c2, .inr ?_⟩
      rw [hprev c3]
      exact Classical.not_not.1 c4
    · exact hgood ⟨Classical.not_not.1 c1, Classical.not_not.1 c2, .inl (by omega)⟩
  · symm
    rw [labelsB_iff]
    exact ⟨by omega, fun i hi => g2 i (by omega)⟩

theorem rightB_false {l : TRes} (h : rightB l ≠ true) : false = rightB l := by
  cases hh : rightB l with
  | false => rfl
  | true => exact absurd hh h

theorem right_vc (a : TRes) : f49.vc a := by
  unfold f49.vc
  have hb : ¬ ((0 ≤ a.1 ∧ a.1 ≤ 1048576) ∧ (0 ≤ a.2.1 ∧ a.2.1 ≤ 1048576) ∧ (0 ≤ a.2.2 ∧ a.2.2 ≤ 1048576)) → false = rightB a := fun h => rightB_false fun hh => h (rightB_iff.1 hh)
  refine ⟨fun h => hb (by omega), fun h1 => ⟨fun h => hb (by omega), fun h2 => ⟨fun h => hb (by omega), fun h3 => ⟨fun h => hb (by omega), fun h4 => ⟨fun h => hb (by omega), fun h5 => ⟨fun h => hb (by omega), fun h6 => ?_⟩⟩⟩⟩⟩⟩
  symm
  rw [rightB_iff]
  omega

theorem f49.ok (a : TRes) (_ : True) : f49.vc a := right_vc a
theorem f55.ok (a : TRes) (_ : True) : f55.vc a := right_vc a

theorem f35.ok (a : TNode) (h : node_pre a) : f35.vc a := by
  obtain ⟨h1, h2⟩ := h
  refine ⟨h1, fun c1 => ⟨fun c2 => ⟨h2, ?_⟩, fun c2 => ?_⟩, fun c1 => ?_⟩
  · unfold nodeB; rw [c1, c2]; rfl
  · unfold nodeB; rw [c1, Bool.eq_false_iff.2 c2]; rfl
  · unfold nodeB; rw [Bool.eq_false_iff.2 c1]; rfl
theorem f36.ok (a : TNode) (h : node_pre a) : f36.vc a := f35.ok a h

theorem f25.ok (a : TQueue) (h : queue_pre a) : f25.vc a := by
  refine ⟨h, fun c1 => ?_, fun c1 => ?_⟩
  · unfold queueB; rw [c1]; rfl
  · unfold queueB; rw [Bool.eq_false_iff.2 c1]; rfl
theorem f37.ok (a : TQueue) (h : queue_pre a) : f37.vc a := f25.ok a h

theorem f51.ok (a : ByteArray) (h : name_pre a) : f51.vc a := by
  refine ⟨fun c1 => ?_, fun c1 => ⟨h, ?_⟩⟩
  · subst c1; rfl
  · unfold maybeB
    have : (a.size == 0) = false := by
      rw [beq_eq_false_iff_ne]
      exact fun hh => c1 (size_zero.2 hh)
    rw [this]; rfl

theorem taskB_false {t : TTask} (h : ¬ (nameB t.1 = true ∧ nameB t.2.1 = true ∧ (0 ≤ t.2.2.1 ∧ t.2.2.1 ≤ 9) ∧ rightB t.2.2.2.1 = true ∧ labelsB t.2.2.2.2.1 = true ∧ maybeB t.2.2.2.2.2.1 = true ∧ maybeB t.2.2.2.2.2.2.1 = true ∧ sizeB t.2.2.2.2.2.2.1 t.2.2.2.2.2.2.2 = true)) : false = taskB t := by
  cases hh : taskB t with
  | false => rfl
  | true => exact absurd (taskB_iff.1 hh) h

theorem f24.ok (a : TTask) (h : task_pre a) : f24.vc a := by
  obtain ⟨p1, p2, p3, p4, p5⟩ := h
  unfold f24.vc
  refine ⟨p1, fun c => taskB_false fun hh => c hh.1, fun c1 => ⟨p2, fun c => taskB_false fun hh => c hh.2.1, fun c2 => ⟨fun c => taskB_false fun hh => by have := hh.2.2.1; omega, fun c3 => ⟨fun c => taskB_false fun hh => by have := hh.2.2.1; omega, fun c4 =>
    ⟨fun c => taskB_false fun hh => c hh.2.2.2.1, fun c5 => ⟨p3, fun c => taskB_false fun hh => c hh.2.2.2.2.1, fun c6 => ⟨p4, fun c => taskB_false fun hh => c hh.2.2.2.2.2.1, fun c7 => ⟨p5, fun c => taskB_false fun hh => c hh.2.2.2.2.2.2.1, fun c8 => ?_⟩⟩⟩⟩⟩⟩⟩⟩
  have e : taskB a = sizeB a.2.2.2.2.2.2.1 a.2.2.2.2.2.2.2 := by
    rw [Bool.eq_iff_iff, taskB_iff]
    exact ⟨fun h => h.2.2.2.2.2.2.2, fun h => ⟨Classical.not_not.1 c1, Classical.not_not.1 c2, ⟨by omega, by omega⟩, Classical.not_not.1 c5, Classical.not_not.1 c6, Classical.not_not.1 c7, Classical.not_not.1 c8, h⟩⟩
  rw [e]
  refine ⟨fun c => ?_, fun c => ⟨fun d => ?_, fun d => ?_⟩⟩
  · rw [Bool.eq_iff_iff, sizeB_iff, beq_iff_eq]
    have := size_zero.1 c
    omega
  · have : a.2.2.2.2.2.2.1.size ≠ 0 := fun hh => c (size_zero.2 hh)
    rw [Bool.eq_iff_iff, sizeB_iff, decide_eq_true_eq]
    omega
  · have : a.2.2.2.2.2.2.1.size ≠ 0 := fun hh => c (size_zero.2 hh)
    rw [Bool.eq_iff_iff, sizeB_iff]
    constructor
    · intro h; cases h
    · intro h; omega

theorem f38.ok (a : TTask) (h : task_pre a) : f38.vc a := by
  obtain ⟨p1, p2, p3, p4, p5⟩ := h
  unfold f38.vc
  have maybe_e : ∀ s : ByteArray, s = ByteArray.empty → maybeB s = true := fun s hs => by subst hs; rfl
  have maybe_n : ∀ s : ByteArray, nameB s = true → maybeB s = true := fun s hs => by unfold maybeB; rw [hs, Bool.or_true]
  have maybe_c : ∀ s : ByteArray, ¬ s = ByteArray.empty → maybeB s = true → nameB s = true := fun s hs hm => by
    unfold maybeB at hm
    simp only [Bool.or_eq_true, beq_iff_eq] at hm
    exact hm.resolve_left fun hh => hs (size_zero.2 hh)
  refine ⟨p1, fun c => taskB_false fun hh => c hh.1, fun c1 => ⟨p2, fun c => taskB_false fun hh => c hh.2.1, fun c2 => ⟨fun c => taskB_false fun hh => by have := hh.2.2.1; omega, fun c3 => ⟨fun c => taskB_false fun hh => by have := hh.2.2.1; omega, fun c4 =>
    ⟨fun c => taskB_false fun hh => c hh.2.2.2.1, fun c5 => ⟨p3, fun c => taskB_false fun hh => c hh.2.2.2.2.1, fun c6 => ?_⟩⟩⟩⟩⟩⟩
  have rest : maybeB a.2.2.2.2.2.1 = true →
      (a.2.2.2.2.2.2.1 = ByteArray.empty → ((a.2.2.2.2.2.2.2 == (0 : Int)) = taskB a)) ∧
      (¬ (a.2.2.2.2.2.2.1 = ByteArray.empty) → name_pre a.2.2.2.2.2.2.1 ∧
        ((nameB (a.2.2.2.2.2.2.1)) = true → ((2 : Int) ≤ a.2.2.2.2.2.2.2 → (decide (a.2.2.2.2.2.2.2 ≤ (4 : Int)) = taskB a)) ∧ (¬ ((2 : Int) ≤ a.2.2.2.2.2.2.2) → (false = taskB a))) ∧
        (¬ ((nameB (a.2.2.2.2.2.2.1)) = true) → (false = taskB a))) := fun c7 => by
    have e : maybeB a.2.2.2.2.2.2.1 = true → taskB a = sizeB a.2.2.2.2.2.2.1 a.2.2.2.2.2.2.2 := fun c8 => by
      rw [Bool.eq_iff_iff, taskB_iff]
      exact ⟨fun h => h.2.2.2.2.2.2.2, fun h => ⟨Classical.not_not.1 c1, Classical.not_not.1 c2, ⟨by omega, by omega⟩, Classical.not_not.1 c5, Classical.not_not.1 c6, c7, c8, h⟩⟩
    refine ⟨fun c => ?_, fun c => ⟨p5, fun d => ⟨fun d1 => ?_, fun d1 => ?_⟩, fun d => taskB_false fun hh => d (maybe_c _ c hh.2.2.2.2.2.2.1)⟩⟩
    · rw [e (maybe_e _ c), Bool.eq_iff_iff, sizeB_iff, beq_iff_eq]
      have := size_zero.1 c
      omega
    · have : a.2.2.2.2.2.2.1.size ≠ 0 := fun hh => c (size_zero.2 hh)
      rw [e (maybe_n _ d), Bool.eq_iff_iff, sizeB_iff, decide_eq_true_eq]
      omega
    · have : a.2.2.2.2.2.2.1.size ≠ 0 := fun hh => c (size_zero.2 hh)
      rw [e (maybe_n _ d), Bool.eq_iff_iff, sizeB_iff]
      constructor
      · intro h; cases h
      · intro h; omega
  refine ⟨fun c => ⟨p4, fun d => taskB_false fun hh => d (maybe_c _ c hh.2.2.2.2.2.1), fun d => rest (maybe_n _ (Classical.not_not.1 d))⟩, fun c => rest (maybe_e _ (Classical.not_not.1 c))⟩

end Go.Abs

-- interregnum/model.PutNode
namespace Go.Abs
open Go
def f39.args (a : ByteArray × T_api_Node) : List D := [.slice .ro 1 a.1.size (gstr a.1), .agg [.str a.2.1, .int .i64 a.2.2.1.1, .int .i64 a.2.2.1.2.1, .int .i64 a.2.2.1.2.2, .slice .ro 2 a.2.2.2.length (gl e_api_Label a.2.2.2)]]
def f39.blks (a : ByteArray × T_api_Node) : List (List D) := []
def f39.res (a : ByteArray × T_api_Node) : List D := [.slice .ro 1 ((putNode a).size) (gstr (putNode a))]
def f39.blks' (a : ByteArray × T_api_Node) : List (List D) := []
def f39.C : Contract := FnC f39.args f39.blks (fun a => putNode_pre a) f39.res f39.blks'
end Go.Abs

-- interregnum/model.putLabels
namespace Go.Abs
open Go
def f61.args (a : ByteArray × (List (T_api_Label))) : List D := [.slice .ro 1 a.1.size (gstr a.1), .slice .ro 2 a.2.length (gl e_api_Label a.2)]
def f61.blks (a : ByteArray × (List (T_api_Label))) : List (List D) := []
def f61.res (a : ByteArray × (List (T_api_Label))) : List D := [.slice .ro 1 ((putLbls a).size) (gstr (putLbls a))]
def f61.blks' (a : ByteArray × (List (T_api_Label))) : List (List D) := []
def f61.C : Contract := FnC f61.args f61.blks (fun a => putLbls_pre a) f61.res f61.blks'
end Go.Abs

/- interregnum/model.PutNode -/
namespace Go.Abs
open Go
set_option linter.unusedVariables false
def f39.kills (a : ByteArray × T_api_Node) : List Hint := []
def f39.cuts (a : ByteArray × T_api_Node) : List (Nat × Σ β : Type, β → Tm) := []
def f39.af (a : ByteArray × T_api_Node) : AF := AF.mk (.seq (.region [⟨(some 3), 0, .box, [.t 1], none⟩,
  ⟨(some 4), 1, (.nilSl 1), [], none⟩])
 (.seq (.seq (.region [⟨(some 5), 2, (.load true 5), [.t 3], none⟩,
  ⟨(some 6), 3, (.call false 35), [.t 5], none⟩,
  ⟨(some 7), 7, (.un .not), [.t 6], none⟩])
 (.cond (.t 7) (.seq (.region [⟨(some 8), 8, .move, [.t 0], none⟩,
  ⟨(some 9), 9, (.call false 60), [.t 8], none⟩,
  ⟨(some 4), 13, .move, [.t 9], none⟩])
 (.ret)) (.skip)))
 (.seq (.region [⟨(some 10), 14, .move, [.t 0], none⟩,
  ⟨(some 11), 15, (.fieldAddr 0), [.t 3], none⟩,
  ⟨(some 12), 16, (.load false 1), [.t 11], none⟩,
  ⟨(some 13), 17, (.call false 16), [.t 10, .t 12], none⟩,
  ⟨(some 14), 21, (.fieldAddr 1), [.t 3], none⟩,
  ⟨(some 15), 22, (.load true 3), [.t 14], none⟩,
  ⟨(some 16), 23, (.call false 62), [.t 13, .t 15], none⟩,
  ⟨(some 17), 27, (.fieldAddr 4), [.t 3], none⟩,
  ⟨(some 18), 28, (.load false 1), [.t 17], none⟩,
  ⟨(some 19), 29, (.call false 61), [.t 16, .t 18], none⟩,
  ⟨(some 4), 33, .move, [.t 19], none⟩])
 (.ret))))
  [.tmp 4] 0 18
def f39.env : Env := [(35, f35.C), (60, f60.C), (16, f16.C), (62, f62.C), (61, f61.C)]
def f39.tree (a : ByteArray × T_api_Node) : Prop := ∃ c1 : T_api_Node, (a.2.1 = c1.1) ∧ (a.2.2.1.1 = c1.2.1.1) ∧ (a.2.2.1.2.1 = c1.2.1.2.1) ∧ (a.2.2.1.2.2 = c1.2.1.2.2) ∧ (a.2.2.2.length = c1.2.2.length) ∧ (∀ i, i < c1.2.2.length → DEqs ((gl e_api_Label a.2.2.2) i) ((gl e_api_Label c1.2.2) i)) ∧ (node_pre c1) ∧ Br (!(nodeB c1)) (∃ c4 : ByteArray, (a.1.size = c4.size) ∧ (∀ i, i < c4.size → DEqs ((gstr a.1) i) ((gstr c4) i)) ∧ (same_pre c4) ∧ (((sameB c4).size) = ((sameB c4).size)) ∧ (((sameB c4).size) = ((putNode a).size)) ∧ (∀ i, i < ((putNode a).size) → DEqs ((gstr (sameB c4)) i) ((gstr (putNode a)) i)) ∧ True) (∃ c7 : ByteArray × ByteArray, (a.1.size = c7.1.size) ∧ (∀ i, i < c7.1.size → DEqs ((gstr a.1) i) ((gstr c7.1) i)) ∧ (a.2.1 = c7.2) ∧ (putText_pre c7) ∧ ∃ c8 : ByteArray × T_ar3_i64, (((putText c7).size) = c8.1.size) ∧ (∀ i, i < c8.1.size → DEqs ((gstr (putText c7)) i) ((gstr c8.1) i)) ∧ (a.2.2.1.1 = c8.2.1) ∧ (a.2.2.1.2.1 = c8.2.2.1) ∧ (a.2.2.1.2.2 = c8.2.2.2) ∧ (putAmt_pre c8) ∧ ∃ c9 : ByteArray × (List (T_api_Label)), (((putAmt c8).size) = c9.1.size) ∧ (∀ i, i < c9.1.size → DEqs ((gstr (putAmt c8)) i) ((gstr c9.1) i)) ∧ (a.2.2.2.length = c9.2.length) ∧ (∀ i, i < c9.2.length → DEqs ((gl e_api_Label a.2.2.2) i) ((gl e_api_Label c9.2) i)) ∧ (putLbls_pre c9) ∧ (((putLbls c9).size) = ((putNode a).size)) ∧ (∀ i, i < ((putNode a).size) → DEqs ((gstr (putLbls c9)) i) ((gstr (putNode a)) i)) ∧ True)
def f39.vc (a : ByteArray × T_api_Node) : Prop := (node_pre a.2 ∧ ((¬ ((nodeB (a.2)) = true) → (same_pre a.1 ∧ ((sameB (a.1)) = putNode a))) ∧ (¬ (¬ ((nodeB (a.2)) = true)) → (putText_pre (a.1, a.2.1) ∧ (putAmt_pre ((putText (a.1, a.2.1)), a.2.2.1) ∧ (putLbls_pre ((putAmt ((putText (a.1, a.2.1)), a.2.2.1)), a.2.2.2) ∧ ((putLbls ((putAmt ((putText (a.1, a.2.1)), a.2.2.1)), a.2.2.2)) = putNode a)))))))
set_option maxRecDepth 100000 in
set_option maxHeartbeats 2000000 in
theorem f39.of (a : ByteArray × T_api_Node) (h : f39.vc a) : f39.tree a := ⟨a.2, ⟨rfl, ⟨rfl, ⟨rfl, ⟨rfl, slK (Rds.self (enc := e_api_Label)) (⟨h.1, br h.2 (Cnd.not Cnd.b) (fun h2 k14 => ⟨a.1, slK RdB.self (⟨k14.1, ⟨rfl, slK (RdB.to RdB.self k14.2) (trivial)⟩⟩)⟩) (fun h3 k15 => ⟨(a.1, a.2.1), slK RdB.self (⟨rfl, ⟨k15.1, ⟨((putText (a.1, a.2.1)), a.2.2.1), slK RdB.self (⟨rfl, ⟨rfl, ⟨rfl, ⟨k15.2.1, ⟨((putAmt ((putText (a.1, a.2.1)), a.2.2.1)), a.2.2.2), slK RdB.self (slK (Rds.self (enc := e_api_Label)) (⟨k15.2.2.1, slK (RdB.to RdB.self k15.2.2.2) (trivial)⟩))⟩⟩⟩⟩⟩)⟩⟩⟩)⟩)⟩)⟩⟩⟩⟩⟩
theorem f39.eq (a : ByteArray × T_api_Node) : (f39.af a).gives f39.env (f39.args a) (f39.blks a) (f39.res a) (f39.blks' a) = f39.tree a := by kernel_rfl
end Go.Abs

-- interregnum/interregnumref05.NodeBytes
namespace Go.Abs
open Go
def f40.args (a : T_api_Node) : List D := [.agg [.str a.1, .int .i64 a.2.1.1, .int .i64 a.2.1.2.1, .int .i64 a.2.1.2.2, .slice .ro 2 a.2.2.length (gl e_api_Label a.2.2)]]
def f40.blks (a : T_api_Node) : List (List D) := []
def f40.res (a : T_api_Node) : List D := [.str (nodeS a)]
def f40.blks' (a : T_api_Node) : List (List D) := []
def f40.C : Contract := FnC f40.args f40.blks (fun a => node_pre a) f40.res f40.blks'
end Go.Abs

-- interregnum/interregnumref05.amount
namespace Go.Abs
open Go
def f63.args (a : T_ar3_i64) : List D := [.agg [.int .i64 a.1, .int .i64 a.2.1, .int .i64 a.2.2]]
def f63.blks (a : T_ar3_i64) : List (List D) := []
def f63.res (a : T_ar3_i64) : List D := [.str (amtS a)]
def f63.blks' (a : T_ar3_i64) : List (List D) := []
def f63.C : Contract := FnC f63.args f63.blks (fun a => amt_pre a) f63.res f63.blks'
end Go.Abs

-- interregnum/interregnumref05.labels
namespace Go.Abs
open Go
def f64.args (a : List (T_api_Label)) : List D := [.slice .ro 2 a.length (gl e_api_Label a)]
def f64.blks (a : List (T_api_Label)) : List (List D) := []
def f64.res (a : List (T_api_Label)) : List D := [.str (lblsS a)]
def f64.blks' (a : List (T_api_Label)) : List (List D) := []
def f64.C : Contract := FnC f64.args f64.blks (fun a => lblsS_pre a) f64.res f64.blks'
end Go.Abs

/- interregnum/interregnumref05.NodeBytes -/
namespace Go.Abs
open Go
set_option linter.unusedVariables false
def f40.kills (a : T_api_Node) : List Hint := []
def f40.cuts (a : T_api_Node) : List (Nat × Σ β : Type, β → Tm) := []
def f40.af (a : T_api_Node) : AF := AF.mk (.seq (.region [⟨(some 1), 0, .box, [.t 0], none⟩,
  ⟨(some 2), 1, .move, [.c (.str ByteArray.empty)], none⟩])
 (.seq (.seq (.region [⟨(some 3), 2, (.load true 5), [.t 1], none⟩,
  ⟨(some 4), 3, (.call false 36), [.t 3], none⟩,
  ⟨(some 5), 7, (.un .not), [.t 4], none⟩])
 (.cond (.t 5) (.seq (.region [⟨(some 2), 8, .move, [.c (.str ByteArray.empty)], none⟩])
 (.ret)) (.skip)))
 (.seq (.region [⟨(some 6), 9, (.fieldAddr 0), [.t 1], none⟩,
  ⟨(some 7), 10, (.load false 1), [.t 6], none⟩,
  ⟨(some 8), 11, (.call false 17), [.t 7], none⟩,
  ⟨(some 9), 15, (.fieldAddr 1), [.t 1], none⟩,
  ⟨(some 10), 16, (.load true 3), [.t 9], none⟩,
  ⟨(some 11), 17, (.call false 63), [.t 10], none⟩,
  ⟨(some 12), 21, (.bin .add), [.t 8, .t 11], none⟩,
  ⟨(some 13), 22, (.fieldAddr 4), [.t 1], none⟩,
  ⟨(some 14), 23, (.load false 1), [.t 13], none⟩,
  ⟨(some 15), 24, (.call false 64), [.t 14], none⟩,
  ⟨(some 16), 28, (.bin .add), [.t 12, .t 15], none⟩,
  ⟨(some 2), 29, .move, [.t 16], none⟩])
 (.ret))))
  [.tmp 2] 0 16
def f40.env : Env := [(36, f36.C), (17, f17.C), (63, f63.C), (64, f64.C)]
def f40.tree (a : T_api_Node) : Prop := ∃ c1 : T_api_Node, (a.1 = c1.1) ∧ (a.2.1.1 = c1.2.1.1) ∧ (a.2.1.2.1 = c1.2.1.2.1) ∧ (a.2.1.2.2 = c1.2.1.2.2) ∧ (a.2.2.length = c1.2.2.length) ∧ (∀ i, i < c1.2.2.length → DEqs ((gl e_api_Label a.2.2) i) ((gl e_api_Label c1.2.2) i)) ∧ (node_pre c1) ∧ Br (!(nodeB c1)) ((ByteArray.empty = (nodeS a)) ∧ True) (∃ c5 : ByteArray, (a.1 = c5) ∧ (text_pre c5) ∧ ∃ c6 : T_ar3_i64, (a.2.1.1 = c6.1) ∧ (a.2.1.2.1 = c6.2.1) ∧ (a.2.1.2.2 = c6.2.2) ∧ (amt_pre c6) ∧ Br (Nat.ble ((textS c5).size + (amtS c6).size) 9223372036854775807) (∃ c8 : List (T_api_Label), (a.2.2.length = c8.length) ∧ (∀ i, i < c8.length → DEqs ((gl e_api_Label a.2.2) i) ((gl e_api_Label c8) i)) ∧ (lblsS_pre c8) ∧ Br (Nat.ble (((textS c5) ++ (amtS c6)).size + (lblsS c8).size) 9223372036854775807) (((((textS c5) ++ (amtS c6)) ++ (lblsS c8)) = (nodeS a)) ∧ True) False) False)
def f40.vc (a : T_api_Node) : Prop := (node_pre a ∧ ((¬ ((nodeB a) = true) → (ByteArray.empty = nodeS a)) ∧ (¬ (¬ ((nodeB a) = true)) → (text_pre a.1 ∧ (amt_pre a.2.1 ∧ (((textS (a.1)).size + (amtS (a.2.1)).size ≤ 9223372036854775807) ∧ (lblsS_pre a.2.2 ∧ ((((textS (a.1)) ++ (amtS (a.2.1))).size + (lblsS (a.2.2)).size ≤ 9223372036854775807) ∧ (((textS (a.1)) ++ (amtS (a.2.1))) ++ (lblsS (a.2.2)) = nodeS a)))))))))
set_option maxRecDepth 100000 in
set_option maxHeartbeats 2000000 in
theorem f40.of (a : T_api_Node) (h : f40.vc a) : f40.tree a := ⟨a, ⟨rfl, ⟨rfl, ⟨rfl, ⟨rfl, slK (Rds.self (enc := e_api_Label)) (⟨h.1, br h.2 (Cnd.not Cnd.b) (fun h2 k16 => ⟨k16, trivial⟩) (fun h3 k17 => ⟨a.1, ⟨rfl, ⟨k17.1, ⟨a.2.1, ⟨rfl, ⟨rfl, ⟨rfl, ⟨k17.2.1, chk k17.2.2.2 Cnd.ble k17.2.2.1 (fun h7 k13 => ⟨a.2.2, slK (Rds.self (enc := e_api_Label)) (⟨k13.1, chk k13.2.2 Cnd.ble k13.2.1 (fun h9 k11 => ⟨k11, trivial⟩)⟩)⟩)⟩⟩⟩⟩⟩⟩⟩⟩)⟩)⟩⟩⟩⟩⟩
theorem f40.eq (a : T_api_Node) : (f40.af a).gives f40.env (f40.args a) (f40.blks a) (f40.res a) (f40.blks' a) = f40.tree a := by kernel_rfl
end Go.Abs

-- interregnum/interregnumref05.QueueBytes
namespace Go.Abs
open Go
def f42.args (a : T_api_Queue) : List D := [.agg [.str a.1, .int .i64 a.2.1, .int .i64 a.2.2.1, .int .i64 a.2.2.2]]
def f42.blks (a : T_api_Queue) : List (List D) := []
def f42.res (a : T_api_Queue) : List D := [.str (queueS a)]
def f42.blks' (a : T_api_Queue) : List (List D) := []
def f42.C : Contract := FnC f42.args f42.blks (fun a => queue_pre a) f42.res f42.blks'
end Go.Abs

/- interregnum/interregnumref05.QueueBytes -/
namespace Go.Abs
open Go
set_option linter.unusedVariables false
def f42.kills (a : T_api_Queue) : List Hint := []
def f42.cuts (a : T_api_Queue) : List (Nat × Σ β : Type, β → Tm) := []
def f42.af (a : T_api_Queue) : AF := AF.mk (.seq (.region [⟨(some 1), 0, .box, [.t 0], none⟩,
  ⟨(some 2), 1, .move, [.c (.str ByteArray.empty)], none⟩])
 (.seq (.seq (.region [⟨(some 3), 2, (.load true 4), [.t 1], none⟩,
  ⟨(some 4), 3, (.call false 37), [.t 3], none⟩,
  ⟨(some 5), 7, (.un .not), [.t 4], none⟩])
 (.cond (.t 5) (.seq (.region [⟨(some 2), 8, .move, [.c (.str ByteArray.empty)], none⟩])
 (.ret)) (.skip)))
 (.seq (.region [⟨(some 6), 9, (.fieldAddr 0), [.t 1], none⟩,
  ⟨(some 7), 10, (.load false 1), [.t 6], none⟩,
  ⟨(some 8), 11, (.call false 17), [.t 7], none⟩,
  ⟨(some 9), 15, (.fieldAddr 1), [.t 1], none⟩,
  ⟨(some 10), 16, (.load true 3), [.t 9], none⟩,
  ⟨(some 11), 17, (.call false 63), [.t 10], none⟩,
  ⟨(some 12), 21, (.bin .add), [.t 8, .t 11], none⟩,
  ⟨(some 2), 22, .move, [.t 12], none⟩])
 (.ret))))
  [.tmp 2] 0 12
def f42.env : Env := [(37, f37.C), (17, f17.C), (63, f63.C)]
def f42.tree (a : T_api_Queue) : Prop := ∃ c1 : T_api_Queue, (a.1 = c1.1) ∧ (a.2.1 = c1.2.1) ∧ (a.2.2.1 = c1.2.2.1) ∧ (a.2.2.2 = c1.2.2.2) ∧ (queue_pre c1) ∧ Br (!(queueB c1)) ((ByteArray.empty = (queueS a)) ∧ True) (∃ c5 : ByteArray, (a.1 = c5) ∧ (text_pre c5) ∧ ∃ c6 : T_ar3_i64, (a.2.1 = c6.1) ∧ (a.2.2.1 = c6.2.1) ∧ (a.2.2.2 = c6.2.2) ∧ (amt_pre c6) ∧ Br (Nat.ble ((textS c5).size + (amtS c6).size) 9223372036854775807) ((((textS c5) ++ (amtS c6)) = (queueS a)) ∧ True) False)
def f42.vc (a : T_api_Queue) : Prop := (queue_pre a ∧ ((¬ ((queueB a) = true) → (ByteArray.empty = queueS a)) ∧ (¬ (¬ ((queueB a) = true)) → (text_pre a.1 ∧ (amt_pre a.2 ∧ (((textS (a.1)).size + (amtS (a.2)).size ≤ 9223372036854775807) ∧ ((textS (a.1)) ++ (amtS (a.2)) = queueS a)))))))
set_option maxRecDepth 100000 in
set_option maxHeartbeats 2000000 in
theorem f42.of (a : T_api_Queue) (h : f42.vc a) : f42.tree a := ⟨a, ⟨rfl, ⟨rfl, ⟨rfl, ⟨rfl, ⟨h.1, br h.2 (Cnd.not Cnd.b) (fun h2 k12 => ⟨k12, trivial⟩) (fun h3 k13 => ⟨a.1, ⟨rfl, ⟨k13.1, ⟨a.2, ⟨rfl, ⟨rfl, ⟨rfl, ⟨k13.2.1, chk k13.2.2.2 Cnd.ble k13.2.2.1 (fun h7 k9 => ⟨k9, trivial⟩)⟩⟩⟩⟩⟩⟩⟩⟩)⟩⟩⟩⟩⟩⟩
theorem f42.eq (a : T_api_Queue) : (f42.af a).gives f42.env (f42.args a) (f42.blks a) (f42.res a) (f42.blks' a) = f42.tree a := by kernel_rfl
end Go.Abs

-- interregnum/model.PutTask
namespace Go.Abs
open Go
def f43.args (a : ByteArray × T_api_Task) : List D := [.slice .ro 1 a.1.size (gstr a.1), .agg [.str a.2.1, .str a.2.2.1, .int .i64 a.2.2.2.1, .int .i64 a.2.2.2.2.1.1, .int .i64 a.2.2.2.2.1.2.1, .int .i64 a.2.2.2.2.1.2.2, .slice .ro 2 a.2.2.2.2.2.1.length (gl e_api_Label a.2.2.2.2.2.1), .str a.2.2.2.2.2.2.1, .str a.2.2.2.2.2.2.2.1, .int .i64 a.2.2.2.2.2.2.2.2]]
def f43.blks (a : ByteArray × T_api_Task) : List (List D) := []
def f43.res (a : ByteArray × T_api_Task) : List D := [.slice .ro 1 ((putTask a).size) (gstr (putTask a))]
def f43.blks' (a : ByteArray × T_api_Task) : List (List D) := []
def f43.C : Contract := FnC f43.args f43.blks (fun a => putTask_pre a) f43.res f43.blks'
end Go.Abs

/- interregnum/model.PutTask -/
namespace Go.Abs
open Go
set_option linter.unusedVariables false
def f43.kills (a : ByteArray × T_api_Task) : List Hint := []
def f43.cuts (a : ByteArray × T_api_Task) : List (Nat × Σ β : Type, β → Tm) := []
def f43.af (a : ByteArray × T_api_Task) : AF := AF.mk (.seq (.region [⟨(some 3), 0, .box, [.t 1], none⟩,
  ⟨(some 4), 1, (.nilSl 1), [], none⟩])
 (.seq (.seq (.region [⟨(some 5), 2, (.load true 10), [.t 3], none⟩,
  ⟨(some 6), 3, (.call false 24), [.t 5], none⟩,
  ⟨(some 7), 7, (.un .not), [.t 6], none⟩])
 (.cond (.t 7) (.seq (.region [⟨(some 8), 8, .move, [.t 0], none⟩,
  ⟨(some 9), 9, (.call false 60), [.t 8], none⟩,
  ⟨(some 4), 13, .move, [.t 9], none⟩])
 (.ret)) (.skip)))
 (.seq (.region [⟨(some 10), 14, .move, [.t 0], none⟩,
  ⟨(some 11), 15, (.fieldAddr 0), [.t 3], none⟩,
  ⟨(some 12), 16, (.load false 1), [.t 11], none⟩,
  ⟨(some 13), 17, (.call false 16), [.t 10, .t 12], none⟩,
  ⟨(some 14), 21, (.fieldAddr 1), [.t 3], none⟩,
  ⟨(some 15), 22, (.load false 1), [.t 14], none⟩,
  ⟨(some 16), 23, (.call false 16), [.t 13, .t 15], none⟩,
  ⟨(some 0), 27, .move, [.t 16], none⟩])
 (.seq (.region [⟨(some 17), 28, .move, [.t 0], none⟩,
  ⟨(some 18), 29, (.fieldAddr 2), [.t 3], none⟩,
  ⟨(some 19), 30, (.load false 1), [.t 18], none⟩,
  ⟨(some 20), 31, (.conv (.int .u64)), [.t 19], none⟩,
  ⟨(some 21), 32, (.call false 14), [.t 17, .t 20], none⟩,
  ⟨(some 22), 36, (.fieldAddr 3), [.t 3], none⟩,
  ⟨(some 23), 37, (.load true 3), [.t 22], none⟩,
  ⟨(some 24), 38, (.call false 62), [.t 21, .t 23], none⟩,
  ⟨(some 0), 42, .move, [.t 24], none⟩])
 (.seq (.region [⟨(some 25), 43, .move, [.t 0], none⟩,
  ⟨(some 26), 44, (.fieldAddr 6), [.t 3], none⟩,
  ⟨(some 27), 45, (.load false 1), [.t 26], none⟩,
  ⟨(some 28), 46, (.call false 61), [.t 25, .t 27], none⟩,
  ⟨(some 29), 50, (.fieldAddr 7), [.t 3], none⟩,
  ⟨(some 30), 51, (.load false 1), [.t 29], none⟩,
  ⟨(some 31), 52, (.call false 16), [.t 28, .t 30], none⟩,
  ⟨(some 32), 56, (.fieldAddr 8), [.t 3], none⟩,
  ⟨(some 33), 57, (.load false 1), [.t 32], none⟩,
  ⟨(some 34), 58, (.call false 16), [.t 31, .t 33], none⟩,
  ⟨(some 0), 62, .move, [.t 34], none⟩])
 (.seq (.region [⟨(some 35), 63, .move, [.t 0], none⟩,
  ⟨(some 36), 64, (.fieldAddr 9), [.t 3], none⟩,
  ⟨(some 37), 65, (.load false 1), [.t 36], none⟩,
  ⟨(some 38), 66, (.conv (.int .u64)), [.t 37], none⟩,
  ⟨(some 39), 67, (.call false 14), [.t 35, .t 38], none⟩,
  ⟨(some 4), 71, .move, [.t 39], none⟩])
 (.ret)))))))
  [.tmp 4] 0 38
def f43.env : Env := [(24, f24.C), (60, f60.C), (16, f16.C), (14, f14.C), (62, f62.C), (61, f61.C)]
def f43.tree (a : ByteArray × T_api_Task) : Prop := ∃ c1 : T_api_Task, (a.2.1 = c1.1) ∧ (a.2.2.1 = c1.2.1) ∧ (a.2.2.2.1 = c1.2.2.1) ∧ (a.2.2.2.2.1.1 = c1.2.2.2.1.1) ∧ (a.2.2.2.2.1.2.1 = c1.2.2.2.1.2.1) ∧ (a.2.2.2.2.1.2.2 = c1.2.2.2.1.2.2) ∧ (a.2.2.2.2.2.1.length = c1.2.2.2.2.1.length) ∧ (∀ i, i < c1.2.2.2.2.1.length → DEqs ((gl e_api_Label a.2.2.2.2.2.1) i) ((gl e_api_Label c1.2.2.2.2.1) i)) ∧ (a.2.2.2.2.2.2.1 = c1.2.2.2.2.2.1) ∧ (a.2.2.2.2.2.2.2.1 = c1.2.2.2.2.2.2.1) ∧ (a.2.2.2.2.2.2.2.2 = c1.2.2.2.2.2.2.2) ∧ (task_pre c1) ∧ Br (!(taskB c1)) (∃ c4 : ByteArray, (a.1.size = c4.size) ∧ (∀ i, i < c4.size → DEqs ((gstr a.1) i) ((gstr c4) i)) ∧ (same_pre c4) ∧ (((sameB c4).size) = ((sameB c4).size)) ∧ (((sameB c4).size) = ((putTask a).size)) ∧ (∀ i, i < ((putTask a).size) → DEqs ((gstr (sameB c4)) i) ((gstr (putTask a)) i)) ∧ True) (∃ c7 : ByteArray × ByteArray, (a.1.size = c7.1.size) ∧ (∀ i, i < c7.1.size → DEqs ((gstr a.1) i) ((gstr c7.1) i)) ∧ (a.2.1 = c7.2) ∧ (putText_pre c7) ∧ ∃ c8 : ByteArray × ByteArray, (((putText c7).size) = c8.1.size) ∧ (∀ i, i < c8.1.size → DEqs ((gstr (putText c7)) i) ((gstr c8.1) i)) ∧ (a.2.2.1 = c8.2) ∧ (putText_pre c8) ∧ Let (IntKind.u64.wrap a.2.2.2.1) (fun v9 : Int => ∃ c10 : ByteArray × Int, (((putText c8).size) = c10.1.size) ∧ (∀ i, i < c10.1.size → DEqs ((gstr (putText c8)) i) ((gstr c10.1) i)) ∧ (v9 = c10.2) ∧ (put_pre c10) ∧ ∃ c11 : ByteArray × T_ar3_i64, (((putB c10).size) = c11.1.size) ∧ (∀ i, i < c11.1.size → DEqs ((gstr (putB c10)) i) ((gstr c11.1) i)) ∧ (a.2.2.2.2.1.1 = c11.2.1) ∧ (a.2.2.2.2.1.2.1 = c11.2.2.1) ∧ (a.2.2.2.2.1.2.2 = c11.2.2.2) ∧ (putAmt_pre c11) ∧ ∃ c12 : ByteArray × (List (T_api_Label)), (((putAmt c11).size) = c12.1.size) ∧ (∀ i, i < c12.1.size → DEqs ((gstr (putAmt c11)) i) ((gstr c12.1) i)) ∧ (a.2.2.2.2.2.1.length = c12.2.length) ∧ (∀ i, i < c12.2.length → DEqs ((gl e_api_Label a.2.2.2.2.2.1) i) ((gl e_api_Label c12.2) i)) ∧ (putLbls_pre c12) ∧ ∃ c13 : ByteArray × ByteArray, (((putLbls c12).size) = c13.1.size) ∧ (∀ i, i < c13.1.size → DEqs ((gstr (putLbls c12)) i) ((gstr c13.1) i)) ∧ (a.2.2.2.2.2.2.1 = c13.2) ∧ (putText_pre c13) ∧ ∃ c14 : ByteArray × ByteArray, (((putText c13).size) = c14.1.size) ∧ (∀ i, i < c14.1.size → DEqs ((gstr (putText c13)) i) ((gstr c14.1) i)) ∧ (a.2.2.2.2.2.2.2.1 = c14.2) ∧ (putText_pre c14) ∧ Let (IntKind.u64.wrap a.2.2.2.2.2.2.2.2) (fun v15 : Int => ∃ c16 : ByteArray × Int, (((putText c14).size) = c16.1.size) ∧ (∀ i, i < c16.1.size → DEqs ((gstr (putText c14)) i) ((gstr c16.1) i)) ∧ (v15 = c16.2) ∧ (put_pre c16) ∧ (((putB c16).size) = ((putB c16).size)) ∧ (((putB c16).size) = ((putTask a).size)) ∧ (∀ i, i < ((putTask a).size) → DEqs ((gstr (putB c16)) i) ((gstr (putTask a)) i)) ∧ True)))
def f43.vc (a : ByteArray × T_api_Task) : Prop := (task_pre a.2 ∧ ((¬ ((taskB (a.2)) = true) → (same_pre a.1 ∧ ((sameB (a.1)) = putTask a))) ∧ (¬ (¬ ((taskB (a.2)) = true)) → (putText_pre (a.1, a.2.1) ∧ (putText_pre ((putText (a.1, a.2.1)), a.2.2.1) ∧ (0 ≤ a.2.2.2.1 ∧ a.2.2.2.1 ≤ 18446744073709551615 ∧ (put_pre ((putText ((putText (a.1, a.2.1)), a.2.2.1)), (a.2.2.2.1)) ∧ (putAmt_pre ((putB ((putText ((putText (a.1, a.2.1)), a.2.2.1)), (a.2.2.2.1))), a.2.2.2.2.1) ∧ (putLbls_pre ((putAmt ((putB ((putText ((putText (a.1, a.2.1)), a.2.2.1)), (a.2.2.2.1))), a.2.2.2.2.1)), a.2.2.2.2.2.1) ∧ (putText_pre ((putLbls ((putAmt ((putB ((putText ((putText (a.1, a.2.1)), a.2.2.1)), (a.2.2.2.1))), a.2.2.2.2.1)), a.2.2.2.2.2.1)), a.2.2.2.2.2.2.1) ∧ (putText_pre ((putText ((putLbls ((putAmt ((putB ((putText ((putText (a.1, a.2.1)), a.2.2.1)), (a.2.2.2.1))), a.2.2.2.2.1)), a.2.2.2.2.2.1)), a.2.2.2.2.2.2.1)), a.2.2.2.2.2.2.2.1) ∧ (0 ≤ a.2.2.2.2.2.2.2.2 ∧ a.2.2.2.2.2.2.2.2 ≤ 18446744073709551615 ∧ (put_pre ((putText ((putText ((putLbls ((putAmt ((putB ((putText ((putText (a.1, a.2.1)), a.2.2.1)), (a.2.2.2.1))), a.2.2.2.2.1)), a.2.2.2.2.2.1)), a.2.2.2.2.2.2.1)), a.2.2.2.2.2.2.2.1)), (a.2.2.2.2.2.2.2.2)) ∧ ((putB ((putText ((putText ((putLbls ((putAmt ((putB ((putText ((putText (a.1, a.2.1)), a.2.2.1)), (a.2.2.2.1))), a.2.2.2.2.1)), a.2.2.2.2.2.1)), a.2.2.2.2.2.2.1)), a.2.2.2.2.2.2.2.1)), (a.2.2.2.2.2.2.2.2))) = putTask a))))))))))))))
set_option maxRecDepth 100000 in
set_option maxHeartbeats 2000000 in
theorem f43.of (a : ByteArray × T_api_Task) (h : f43.vc a) : f43.tree a := ⟨a.2, ⟨rfl, ⟨rfl, ⟨rfl, ⟨rfl, ⟨rfl, ⟨rfl, slK (Rds.self (enc := e_api_Label)) (⟨rfl, ⟨rfl, ⟨rfl, ⟨h.1, br h.2 (Cnd.not Cnd.b) (fun h2 k32 => ⟨a.1, slK RdB.self (⟨k32.1, ⟨rfl, slK (RdB.to RdB.self k32.2) (trivial)⟩⟩)⟩) (fun h3 k33 => ⟨(a.1, a.2.1), slK RdB.self (⟨rfl, ⟨k33.1, ⟨((putText (a.1, a.2.1)), a.2.2.1), slK RdB.self (⟨rfl, ⟨k33.2.1, wrapK.u64 k33.2.2 (fun h27 h28 k29 => ⟨((putText ((putText (a.1, a.2.1)), a.2.2.1)), (a.2.2.2.1)), slK RdB.self (⟨rfl, ⟨k29.1, ⟨((putB ((putText ((putText (a.1, a.2.1)), a.2.2.1)), (a.2.2.2.1))), a.2.2.2.2.1), slK RdB.self (⟨rfl, ⟨rfl, ⟨rfl, ⟨k29.2.1, ⟨((putAmt ((putB ((putText ((putText (a.1, a.2.1)), a.2.2.1)), (a.2.2.2.1))), a.2.2.2.2.1)), a.2.2.2.2.2.1), slK RdB.self (slK (Rds.self (enc := e_api_Label)) (⟨k29.2.2.1, ⟨((putLbls ((putAmt ((putB ((putText ((putText (a.1, a.2.1)), a.2.2.1)), (a.2.2.2.1))), a.2.2.2.2.1)), a.2.2.2.2.2.1)), a.2.2.2.2.2.2.1), slK RdB.self (⟨rfl, ⟨k29.2.2.2.1, ⟨((putText ((putLbls ((putAmt ((putB ((putText ((putText (a.1, a.2.1)), a.2.2.1)), (a.2.2.2.1))), a.2.2.2.2.1)), a.2.2.2.2.2.1)), a.2.2.2.2.2.2.1)), a.2.2.2.2.2.2.2.1), slK RdB.self (⟨rfl, ⟨k29.2.2.2.2.1, wrapK.u64 k29.2.2.2.2.2 (fun h19 h20 k21 => ⟨((putText ((putText ((putLbls ((putAmt ((putB ((putText ((putText (a.1, a.2.1)), a.2.2.1)), (a.2.2.2.1))), a.2.2.2.2.1)), a.2.2.2.2.2.1)), a.2.2.2.2.2.2.1)), a.2.2.2.2.2.2.2.1)), (a.2.2.2.2.2.2.2.2)), slK RdB.self (⟨rfl, ⟨k21.1, ⟨rfl, slK (RdB.to RdB.self k21.2) (trivial)⟩⟩⟩)⟩)⟩⟩)⟩⟩⟩)⟩⟩))⟩⟩⟩⟩⟩)⟩⟩⟩)⟩)⟩⟩)⟩⟩⟩)⟩)⟩⟩⟩⟩)⟩⟩⟩⟩⟩⟩⟩
theorem f43.eq (a : ByteArray × T_api_Task) : (f43.af a).gives f43.env (f43.args a) (f43.blks a) (f43.res a) (f43.blks' a) = f43.tree a := by kernel_rfl
end Go.Abs

-- interregnum/interregnumref05.TaskBytes
namespace Go.Abs
open Go
def f44.args (a : T_api_Task) : List D := [.agg [.str a.1, .str a.2.1, .int .i64 a.2.2.1, .int .i64 a.2.2.2.1.1, .int .i64 a.2.2.2.1.2.1, .int .i64 a.2.2.2.1.2.2, .slice .ro 2 a.2.2.2.2.1.length (gl e_api_Label a.2.2.2.2.1), .str a.2.2.2.2.2.1, .str a.2.2.2.2.2.2.1, .int .i64 a.2.2.2.2.2.2.2]]
def f44.blks (a : T_api_Task) : List (List D) := []
def f44.res (a : T_api_Task) : List D := [.str (taskS a)]
def f44.blks' (a : T_api_Task) : List (List D) := []
def f44.C : Contract := FnC f44.args f44.blks (fun a => task_pre a) f44.res f44.blks'
end Go.Abs

-- interregnum/interregnumref05.number
namespace Go.Abs
open Go
def f65.args (a : Int) : List D := [.int .i64 a]
def f65.blks (a : Int) : List (List D) := []
def f65.res (a : Int) : List D := [.str (numS a)]
def f65.blks' (a : Int) : List (List D) := []
def f65.C : Contract := FnC f65.args f65.blks (fun a => number_pre a) f65.res f65.blks'
end Go.Abs

/- interregnum/interregnumref05.TaskBytes -/
namespace Go.Abs
open Go
set_option linter.unusedVariables false
def f44.kills (a : T_api_Task) : List Hint := []
def f44.cuts (a : T_api_Task) : List (Nat × Σ β : Type, β → Tm) := []
def f44.af (a : T_api_Task) : AF := AF.mk (.seq (.region [⟨(some 1), 0, .box, [.t 0], none⟩,
  ⟨(some 2), 1, .move, [.c (.str ByteArray.empty)], none⟩])
 (.seq (.seq (.region [⟨(some 4), 2, (.load true 10), [.t 1], none⟩,
  ⟨(some 5), 3, (.call false 38), [.t 4], none⟩,
  ⟨(some 6), 7, (.un .not), [.t 5], none⟩])
 (.cond (.t 6) (.seq (.region [⟨(some 2), 8, .move, [.c (.str ByteArray.empty)], none⟩])
 (.ret)) (.skip)))
 (.seq (.region [⟨(some 7), 9, (.fieldAddr 0), [.t 1], none⟩,
  ⟨(some 8), 10, (.load false 1), [.t 7], none⟩,
  ⟨(some 9), 11, (.call false 17), [.t 8], none⟩,
  ⟨(some 10), 15, (.fieldAddr 1), [.t 1], none⟩,
  ⟨(some 11), 16, (.load false 1), [.t 10], none⟩,
  ⟨(some 12), 17, (.call false 17), [.t 11], none⟩,
  ⟨(some 13), 21, (.bin .add), [.t 9, .t 12], none⟩,
  ⟨(some 14), 22, (.fieldAddr 2), [.t 1], none⟩,
  ⟨(some 15), 23, (.load false 1), [.t 14], none⟩,
  ⟨(some 16), 24, (.call false 65), [.t 15], none⟩,
  ⟨(some 17), 28, (.bin .add), [.t 13, .t 16], none⟩,
  ⟨(some 18), 29, (.fieldAddr 3), [.t 1], none⟩,
  ⟨(some 19), 30, (.load true 3), [.t 18], none⟩,
  ⟨(some 20), 31, (.call false 63), [.t 19], none⟩,
  ⟨(some 21), 35, (.bin .add), [.t 17, .t 20], none⟩,
  ⟨(some 22), 36, (.fieldAddr 6), [.t 1], none⟩,
  ⟨(some 23), 37, (.load false 1), [.t 22], none⟩,
  ⟨(some 24), 38, (.call false 64), [.t 23], none⟩,
  ⟨(some 25), 42, (.bin .add), [.t 21, .t 24], none⟩,
  ⟨(some 3), 43, .move, [.t 25], none⟩])
 (.seq (.region [⟨(some 26), 44, .move, [.t 3], none⟩,
  ⟨(some 27), 45, (.fieldAddr 7), [.t 1], none⟩,
  ⟨(some 28), 46, (.load false 1), [.t 27], none⟩,
  ⟨(some 29), 47, (.call false 17), [.t 28], none⟩,
  ⟨(some 30), 51, (.bin .add), [.t 26, .t 29], none⟩,
  ⟨(some 31), 52, (.fieldAddr 8), [.t 1], none⟩,
  ⟨(some 32), 53, (.load false 1), [.t 31], none⟩,
  ⟨(some 33), 54, (.call false 17), [.t 32], none⟩,
  ⟨(some 34), 58, (.bin .add), [.t 30, .t 33], none⟩,
  ⟨(some 35), 59, (.fieldAddr 9), [.t 1], none⟩,
  ⟨(some 36), 60, (.load false 1), [.t 35], none⟩,
  ⟨(some 37), 61, (.call false 65), [.t 36], none⟩,
  ⟨(some 38), 65, (.bin .add), [.t 34, .t 37], none⟩,
  ⟨(some 2), 66, .move, [.t 38], none⟩])
 (.ret)))))
  [.tmp 2] 0 38
def f44.env : Env := [(38, f38.C), (17, f17.C), (65, f65.C), (63, f63.C), (64, f64.C)]
def f44.tree (a : T_api_Task) : Prop := ∃ c1 : T_api_Task, (a.1 = c1.1) ∧ (a.2.1 = c1.2.1) ∧ (a.2.2.1 = c1.2.2.1) ∧ (a.2.2.2.1.1 = c1.2.2.2.1.1) ∧ (a.2.2.2.1.2.1 = c1.2.2.2.1.2.1) ∧ (a.2.2.2.1.2.2 = c1.2.2.2.1.2.2) ∧ (a.2.2.2.2.1.length = c1.2.2.2.2.1.length) ∧ (∀ i, i < c1.2.2.2.2.1.length → DEqs ((gl e_api_Label a.2.2.2.2.1) i) ((gl e_api_Label c1.2.2.2.2.1) i)) ∧ (a.2.2.2.2.2.1 = c1.2.2.2.2.2.1) ∧ (a.2.2.2.2.2.2.1 = c1.2.2.2.2.2.2.1) ∧ (a.2.2.2.2.2.2.2 = c1.2.2.2.2.2.2.2) ∧ (task_pre c1) ∧ Br (!(taskB c1)) ((ByteArray.empty = (taskS a)) ∧ True) (∃ c5 : ByteArray, (a.1 = c5) ∧ (text_pre c5) ∧ ∃ c6 : ByteArray, (a.2.1 = c6) ∧ (text_pre c6) ∧ Br (Nat.ble ((textS c5).size + (textS c6).size) 9223372036854775807) (∃ c8 : Int, (a.2.2.1 = c8) ∧ (number_pre c8) ∧ Br (Nat.ble (((textS c5) ++ (textS c6)).size + (numS c8).size) 9223372036854775807) (∃ c10 : T_ar3_i64, (a.2.2.2.1.1 = c10.1) ∧ (a.2.2.2.1.2.1 = c10.2.1) ∧ (a.2.2.2.1.2.2 = c10.2.2) ∧ (amt_pre c10) ∧ Br (Nat.ble ((((textS c5) ++ (textS c6)) ++ (numS c8)).size + (amtS c10).size) 9223372036854775807) (∃ c12 : List (T_api_Label), (a.2.2.2.2.1.length = c12.length) ∧ (∀ i, i < c12.length → DEqs ((gl e_api_Label a.2.2.2.2.1) i) ((gl e_api_Label c12) i)) ∧ (lblsS_pre c12) ∧ Br (Nat.ble (((((textS c5) ++ (textS c6)) ++ (numS c8)) ++ (amtS c10)).size + (lblsS c12).size) 9223372036854775807) (∃ c14 : ByteArray, (a.2.2.2.2.2.1 = c14) ∧ (text_pre c14) ∧ Br (Nat.ble ((((((textS c5) ++ (textS c6)) ++ (numS c8)) ++ (amtS c10)) ++ (lblsS c12)).size + (textS c14).size) 9223372036854775807) (∃ c16 : ByteArray, (a.2.2.2.2.2.2.1 = c16) ∧ (text_pre c16) ∧ Br (Nat.ble (((((((textS c5) ++ (textS c6)) ++ (numS c8)) ++ (amtS c10)) ++ (lblsS c12)) ++ (textS c14)).size + (textS c16).size) 9223372036854775807) (∃ c18 : Int, (a.2.2.2.2.2.2.2 = c18) ∧ (number_pre c18) ∧ Br (Nat.ble ((((((((textS c5) ++ (textS c6)) ++ (numS c8)) ++ (amtS c10)) ++ (lblsS c12)) ++ (textS c14)) ++ (textS c16)).size + (numS c18).size) 9223372036854775807) ((((((((((textS c5) ++ (textS c6)) ++ (numS c8)) ++ (amtS c10)) ++ (lblsS c12)) ++ (textS c14)) ++ (textS c16)) ++ (numS c18)) = (taskS a)) ∧ True) False) False) False) False) False) False) False)
def f44.vc (a : T_api_Task) : Prop := (task_pre a ∧ ((¬ ((taskB a) = true) → (ByteArray.empty = taskS a)) ∧ (¬ (¬ ((taskB a) = true)) → (text_pre a.1 ∧ (text_pre a.2.1 ∧ (((textS (a.1)).size + (textS (a.2.1)).size ≤ 9223372036854775807) ∧ (number_pre a.2.2.1 ∧ ((((textS (a.1)) ++ (textS (a.2.1))).size + (numS (a.2.2.1)).size ≤ 9223372036854775807) ∧ (amt_pre a.2.2.2.1 ∧ (((((textS (a.1)) ++ (textS (a.2.1))) ++ (numS (a.2.2.1))).size + (amtS (a.2.2.2.1)).size ≤ 9223372036854775807) ∧ (lblsS_pre a.2.2.2.2.1 ∧ ((((((textS (a.1)) ++ (textS (a.2.1))) ++ (numS (a.2.2.1))) ++ (amtS (a.2.2.2.1))).size + (lblsS (a.2.2.2.2.1)).size ≤ 9223372036854775807) ∧ (text_pre a.2.2.2.2.2.1 ∧ (((((((textS (a.1)) ++ (textS (a.2.1))) ++ (numS (a.2.2.1))) ++ (amtS (a.2.2.2.1))) ++ (lblsS (a.2.2.2.2.1))).size + (textS (a.2.2.2.2.2.1)).size ≤ 9223372036854775807) ∧ (text_pre a.2.2.2.2.2.2.1 ∧ ((((((((textS (a.1)) ++ (textS (a.2.1))) ++ (numS (a.2.2.1))) ++ (amtS (a.2.2.2.1))) ++ (lblsS (a.2.2.2.2.1))) ++ (textS (a.2.2.2.2.2.1))).size + (textS (a.2.2.2.2.2.2.1)).size ≤ 9223372036854775807) ∧ (number_pre a.2.2.2.2.2.2.2 ∧ (((((((((textS (a.1)) ++ (textS (a.2.1))) ++ (numS (a.2.2.1))) ++ (amtS (a.2.2.2.1))) ++ (lblsS (a.2.2.2.2.1))) ++ (textS (a.2.2.2.2.2.1))) ++ (textS (a.2.2.2.2.2.2.1))).size + (numS (a.2.2.2.2.2.2.2)).size ≤ 9223372036854775807) ∧ ((((((((textS (a.1)) ++ (textS (a.2.1))) ++ (numS (a.2.2.1))) ++ (amtS (a.2.2.2.1))) ++ (lblsS (a.2.2.2.2.1))) ++ (textS (a.2.2.2.2.2.1))) ++ (textS (a.2.2.2.2.2.2.1))) ++ (numS (a.2.2.2.2.2.2.2)) = taskS a)))))))))))))))))))
set_option maxRecDepth 100000 in
set_option maxHeartbeats 2000000 in
theorem f44.of (a : T_api_Task) (h : f44.vc a) : f44.tree a := ⟨a, ⟨rfl, ⟨rfl, ⟨rfl, ⟨rfl, ⟨rfl, ⟨rfl, slK (Rds.self (enc := e_api_Label)) (⟨rfl, ⟨rfl, ⟨rfl, ⟨h.1, br h.2 (Cnd.not Cnd.b) (fun h2 k36 => ⟨k36, trivial⟩) (fun h3 k37 => ⟨a.1, ⟨rfl, ⟨k37.1, ⟨a.2.1, ⟨rfl, ⟨k37.2.1, chk k37.2.2.2 Cnd.ble k37.2.2.1 (fun h7 k33 => ⟨a.2.2.1, ⟨rfl, ⟨k33.1, chk k33.2.2 Cnd.ble k33.2.1 (fun h9 k31 => ⟨a.2.2.2.1, ⟨rfl, ⟨rfl, ⟨rfl, ⟨k31.1, chk k31.2.2 Cnd.ble k31.2.1 (fun h11 k29 => ⟨a.2.2.2.2.1, slK (Rds.self (enc := e_api_Label)) (⟨k29.1, chk k29.2.2 Cnd.ble k29.2.1 (fun h13 k27 => ⟨a.2.2.2.2.2.1, ⟨rfl, ⟨k27.1, chk k27.2.2 Cnd.ble k27.2.1 (fun h15 k25 => ⟨a.2.2.2.2.2.2.1, ⟨rfl, ⟨k25.1, chk k25.2.2 Cnd.ble k25.2.1 (fun h17 k23 => ⟨a.2.2.2.2.2.2.2, ⟨rfl, ⟨k23.1, chk k23.2.2 Cnd.ble k23.2.1 (fun h19 k21 => ⟨k21, trivial⟩)⟩⟩⟩)⟩⟩⟩)⟩⟩⟩)⟩)⟩)⟩⟩⟩⟩⟩)⟩⟩⟩)⟩⟩⟩⟩⟩⟩)⟩⟩⟩⟩)⟩⟩⟩⟩⟩⟩⟩
theorem f44.eq (a : T_api_Task) : (f44.af a).gives f44.env (f44.args a) (f44.blks a) (f44.res a) (f44.blks' a) = f44.tree a := by kernel_rfl
end Go.Abs

/- interregnum/model.putLabels -/
namespace Go.Abs
open Go
set_option linter.unusedVariables false
def f61.kills (a : ByteArray × (List (T_api_Label))) : List Hint := [.tell (ByteArray × Int) (fun x => ⟨[.slice .ro 1 x.1.size (gstr x.1), .dead, .dead, .dead, .dead, .dead, .dead, .dead, .dead, .dead, .dead, .dead, .slice .ro 2 a.2.length (gl e_api_Label a.2), .int .i64 (a.2.length : Int), .int .i64 x.2, .dead, .dead, .dead, .dead, .dead, .dead, .dead, .dead, .dead, .dead, .dead, .dead], [], []⟩)]
def f61.cuts (a : ByteArray × (List (T_api_Label))) : List (Nat × Σ β : Type, β → Tm) := []
def f61.af (a : ByteArray × (List (T_api_Label))) : AF := AF.mk (.seq (.region [⟨(some 4), 0, (.nilSl 1), [], none⟩])
 (.seq (.region [⟨(some 7), 1, .move, [.t 0], none⟩,
  ⟨(some 8), 2, .move, [.t 1], none⟩,
  ⟨(some 9), 3, (.len false), [.t 8], none⟩,
  ⟨(some 10), 4, (.conv (.int .u64)), [.t 9], none⟩,
  ⟨(some 11), 5, (.call false 14), [.t 7, .t 10], none⟩,
  ⟨(some 0), 9, .move, [.t 11], none⟩])
 (.seq (.seq (.region [⟨(some 12), 10, .move, [.t 1], none⟩,
  ⟨(some 13), 11, (.len false), [.t 12], none⟩,
  ⟨(some 14), 12, .move, [.c (.int .i64 (0))], none⟩])
 (.block 0 (.loopT (ByteArray × Int) (fun x => ⟨[.slice .ro 1 x.1.size (gstr x.1), .dead, .dead, .dead, .dead, .dead, .dead, .dead, .dead, .dead, .dead, .dead, .slice .ro 2 a.2.length (gl e_api_Label a.2), .int .i64 (a.2.length : Int), .int .i64 x.2, .dead, .dead, .dead, .dead, .dead, .dead, .dead, .dead, .dead, .dead, .dead, .dead], [], []⟩) 13 36 (.seq (.region [⟨(some 15), 13, (.bin .lss), [.t 14, .t 13], none⟩])
 (.seq (.cond (.t 15) (.skip) (.exit 0))
 (.seq (.block 1 (.seq (.region [⟨(some 16), 14, (.indexAddr 2 none), [.t 12, .t 14], none⟩,
  ⟨(some 17), 15, (.load true 2), [.t 16], none⟩,
  ⟨(some 6), 16, (.alloc [.str ByteArray.empty, .str ByteArray.empty]), [], none⟩,
  ⟨none, 19, (.store 2), [.t 6, .t 17], none⟩])
 (.region [⟨(some 18), 20, .move, [.t 0], none⟩,
  ⟨(some 19), 21, (.fieldAddr 0), [.t 6], none⟩,
  ⟨(some 20), 22, (.load false 1), [.t 19], none⟩,
  ⟨(some 21), 23, (.call false 16), [.t 18, .t 20], none⟩,
  ⟨(some 22), 27, (.fieldAddr 1), [.t 6], none⟩,
  ⟨(some 23), 28, (.load false 1), [.t 22], none⟩,
  ⟨(some 24), 29, (.call false 16), [.t 21, .t 23], none⟩,
  ⟨(some 0), 33, .move, [.t 24], none⟩])))
 (.region [⟨(some 25), 34, (.bin .add), [.t 14, .c (.int .i64 (1))], none⟩,
  ⟨(some 14), 35, .move, [.t 25], none⟩])))))))
 (.seq (.region [⟨(some 26), 36, .move, [.t 0], none⟩,
  ⟨(some 4), 37, .move, [.t 26], none⟩])
 (.ret)))))
  [.tmp 4] 0 25
def f61.env : Env := [(14, f14.C), (16, f16.C)]
def f61.tree (a : ByteArray × (List (T_api_Label))) : Prop := Let (IntKind.u64.wrap (a.2.length : Int)) (fun v1 : Int => ∃ c2 : ByteArray × Int, (a.1.size = c2.1.size) ∧ (∀ i, i < c2.1.size → DEqs ((gstr a.1) i) ((gstr c2.1) i)) ∧ (v1 = c2.2) ∧ (put_pre c2) ∧ ∃ (I4 : (ByteArray × Int) → Prop) (μ5 : (ByteArray × Int) → Nat), (∃ x3 : ByteArray × Int, (((putB c2).size) = x3.1.size) ∧ (∀ i, i < x3.1.size → DEqs ((gstr (putB c2)) i) ((gstr x3.1) i)) ∧ (a.2.length = a.2.length) ∧ (∀ i, i < a.2.length → DEqs ((gl e_api_Label a.2) i) ((gl e_api_Label a.2) i)) ∧ ((a.2.length : Int) = (a.2.length : Int)) ∧ ((0 : Int) = x3.2) ∧ I4 x3) ∧ ∀ y6 : ByteArray × Int, I4 y6 → (Br (decide (y6.2 < (a.2.length : Int))) (Br (decide ((0 : Int) ≤ y6.2) && decide (y6.2 < (a.2.length : Int))) (∃ c10 : ByteArray × ByteArray, (y6.1.size = c10.1.size) ∧ (∀ i, i < c10.1.size → DEqs ((gstr y6.1) i) ((gstr c10.1) i)) ∧ (((at_ a.2 y6.2).1) = c10.2) ∧ (putText_pre c10) ∧ ∃ c11 : ByteArray × ByteArray, (((putText c10).size) = c11.1.size) ∧ (∀ i, i < c11.1.size → DEqs ((gstr (putText c10)) i) ((gstr c11.1) i)) ∧ (((at_ a.2 y6.2).2) = c11.2) ∧ (putText_pre c11) ∧ Let (IntKind.i64.wrap (y6.2 + (1 : Int))) (fun v12 : Int => ∃ x13 : ByteArray × Int, (((putText c11).size) = x13.1.size) ∧ (∀ i, i < x13.1.size → DEqs ((gstr (putText c11)) i) ((gstr x13.1) i)) ∧ (a.2.length = a.2.length) ∧ (∀ i, i < a.2.length → DEqs ((gl e_api_Label a.2) i) ((gl e_api_Label a.2) i)) ∧ ((a.2.length : Int) = (a.2.length : Int)) ∧ (v12 = x13.2) ∧ I4 x13 ∧ μ5 x13 < μ5 y6)) False) ((y6.1.size = ((putLbls a).size)) ∧ (∀ i, i < ((putLbls a).size) → DEqs ((gstr y6.1) i) ((gstr (putLbls a)) i)) ∧ True)))
def f61.vc (a : ByteArray × (List (T_api_Label))) : Prop := (0 ≤ (a.2.length : Int) ∧ (a.2.length : Int) ≤ 18446744073709551615 ∧ (put_pre (a.1, (a.2.length : Int)) ∧ (∃ (I4 : (ByteArray × Int) → Prop) (μ5 : (ByteArray × Int) → Nat), I4 ((putB (a.1, (a.2.length : Int))), (0 : Int)) ∧ ∀ y6 : ByteArray × Int, I4 y6 → ((y6.2 < (a.2.length : Int) → ((0 : Int) ≤ y6.2 ∧ y6.2 < (a.2.length : Int) ∧ (putText_pre (y6.1, (at_ a.2 y6.2).1) ∧ (putText_pre ((putText (y6.1, (at_ a.2 y6.2).1)), (at_ a.2 y6.2).2) ∧ (-9223372036854775808 ≤ (y6.2 + (1 : Int)) ∧ (y6.2 + (1 : Int)) ≤ 9223372036854775807 ∧ (I4 ((putText ((putText (y6.1, (at_ a.2 y6.2).1)), (at_ a.2 y6.2).2)), (y6.2 + (1 : Int))) ∧ μ5 ((putText ((putText (y6.1, (at_ a.2 y6.2).1)), (at_ a.2 y6.2).2)), (y6.2 + (1 : Int))) < μ5 y6)))))) ∧ (¬ (y6.2 < (a.2.length : Int)) → (y6.1 = putLbls a))))))
set_option maxRecDepth 100000 in
set_option maxHeartbeats 2000000 in
theorem f61.of (a : ByteArray × (List (T_api_Label))) (h : f61.vc a) : f61.tree a := wrapK.u64 h (fun h28 h29 k30 => ⟨(a.1, (a.2.length : Int)), slK RdB.self (⟨rfl, ⟨k30.1, Exists.elim k30.2 (fun I4 h24_ => Exists.elim h24_ (fun μ5 h24 => ⟨I4, μ5, ⟨((putB (a.1, (a.2.length : Int))), (0 : Int)), slK RdB.self (slK (Rds.self (enc := e_api_Label)) (⟨rfl, ⟨rfl, h24.1⟩⟩))⟩, fun y6 h26 => br (h24.2 y6 h26) Cnd.dec (fun h7 k22 => chk k22.2.2 Cnd.ix ⟨k22.1, k22.2.1⟩ (fun h9 k20 => ⟨(y6.1, (at_ a.2 y6.2).1), slK RdB.self (⟨rfl, ⟨k20.1, ⟨((putText (y6.1, (at_ a.2 y6.2).1)), (at_ a.2 y6.2).2), slK RdB.self (⟨rfl, ⟨k20.2.1, wrapK.i64 k20.2.2 (fun h15 h16 k17 => ⟨((putText ((putText (y6.1, (at_ a.2 y6.2).1)), (at_ a.2 y6.2).2)), (y6.2 + (1 : Int))), slK RdB.self (slK (Rds.self (enc := e_api_Label)) (⟨rfl, ⟨rfl, k17⟩⟩))⟩)⟩⟩)⟩⟩⟩)⟩)) (fun h8 k23 => slK (RdB.to RdB.self k23) (trivial))⟩))⟩⟩)⟩)
theorem f61.eq (a : ByteArray × (List (T_api_Label))) : (f61.af a).gives f61.env (f61.args a) (f61.blks a) (f61.res a) (f61.blks' a) = f61.tree a := by kernel_rfl
end Go.Abs

/- interregnum/interregnumref05.amount -/
namespace Go.Abs
open Go
set_option linter.unusedVariables false
def f63.kills (a : T_ar3_i64) : List Hint := []
def f63.cuts (a : T_ar3_i64) : List (Nat × Σ β : Type, β → Tm) := []
def f63.af (a : T_ar3_i64) : AF := AF.mk (.seq (.region [⟨(some 1), 0, .box, [.t 0], none⟩,
  ⟨(some 2), 1, .move, [.c (.str ByteArray.empty)], none⟩])
 (.seq (.region [⟨(some 3), 2, (.indexAddr 1 (some 3)), [.t 1, .c (.int .i64 (0))], none⟩,
  ⟨(some 4), 3, (.load false 1), [.t 3], none⟩,
  ⟨(some 5), 4, (.call false 65), [.t 4], none⟩,
  ⟨(some 6), 8, (.indexAddr 1 (some 3)), [.t 1, .c (.int .i64 (1))], none⟩,
  ⟨(some 7), 9, (.load false 1), [.t 6], none⟩,
  ⟨(some 8), 10, (.call false 65), [.t 7], none⟩,
  ⟨(some 9), 14, (.bin .add), [.t 5, .t 8], none⟩,
  ⟨(some 10), 15, (.indexAddr 1 (some 3)), [.t 1, .c (.int .i64 (2))], none⟩,
  ⟨(some 11), 16, (.load false 1), [.t 10], none⟩,
  ⟨(some 12), 17, (.call false 65), [.t 11], none⟩,
  ⟨(some 13), 21, (.bin .add), [.t 9, .t 12], none⟩,
  ⟨(some 2), 22, .move, [.t 13], none⟩])
 (.ret)))
  [.tmp 2] 0 13
def f63.env : Env := [(65, f65.C)]
def f63.tree (a : T_ar3_i64) : Prop := ∃ c1 : Int, (a.1 = c1) ∧ (number_pre c1) ∧ ∃ c2 : Int, (a.2.1 = c2) ∧ (number_pre c2) ∧ Br (Nat.ble ((numS c1).size + (numS c2).size) 9223372036854775807) (∃ c4 : Int, (a.2.2 = c4) ∧ (number_pre c4) ∧ Br (Nat.ble (((numS c1) ++ (numS c2)).size + (numS c4).size) 9223372036854775807) (((((numS c1) ++ (numS c2)) ++ (numS c4)) = (amtS a)) ∧ True) False) False
def f63.vc (a : T_ar3_i64) : Prop := (number_pre a.1 ∧ (number_pre a.2.1 ∧ (((numS (a.1)).size + (numS (a.2.1)).size ≤ 9223372036854775807) ∧ (number_pre a.2.2 ∧ ((((numS (a.1)) ++ (numS (a.2.1))).size + (numS (a.2.2)).size ≤ 9223372036854775807) ∧ (((numS (a.1)) ++ (numS (a.2.1))) ++ (numS (a.2.2)) = amtS a))))))
set_option maxRecDepth 100000 in
set_option maxHeartbeats 2000000 in
theorem f63.of (a : T_ar3_i64) (h : f63.vc a) : f63.tree a := ⟨a.1, ⟨rfl, ⟨h.1, ⟨a.2.1, ⟨rfl, ⟨h.2.1, chk h.2.2.2 Cnd.ble h.2.2.1 (fun h3 k9 => ⟨a.2.2, ⟨rfl, ⟨k9.1, chk k9.2.2 Cnd.ble k9.2.1 (fun h5 k7 => ⟨k7, trivial⟩)⟩⟩⟩)⟩⟩⟩⟩⟩⟩
theorem f63.eq (a : T_ar3_i64) : (f63.af a).gives f63.env (f63.args a) (f63.blks a) (f63.res a) (f63.blks' a) = f63.tree a := by kernel_rfl
end Go.Abs

/- interregnum/interregnumref05.labels -/
namespace Go.Abs
open Go
set_option linter.unusedVariables false
def f64.kills (a : List (T_api_Label)) : List Hint := [.tell (ByteArray × Int) (fun x => ⟨[.slice .ro 2 a.length (gl e_api_Label a), .dead, .dead, .str x.1, .dead, .dead, .dead, .dead, .dead, .int .i64 (a.length : Int), .int .i64 x.2, .dead, .dead, .dead, .dead, .dead, .dead, .dead, .dead, .dead, .dead, .dead, .dead, .dead, .dead, .dead, .dead, .dead, .dead, .dead], [], []⟩)]
def f64.cuts (a : List (T_api_Label)) : List (Nat × Σ β : Type, β → Tm) := []
def f64.af (a : List (T_api_Label)) : AF := AF.mk (.seq (.region [⟨(some 2), 0, .move, [.c (.str ByteArray.empty)], none⟩])
 (.seq (.region [⟨(some 5), 1, .move, [.t 0], none⟩,
  ⟨(some 6), 2, (.len false), [.t 5], none⟩,
  ⟨(some 7), 3, (.call false 65), [.t 6], none⟩,
  ⟨(some 3), 7, .move, [.t 7], none⟩])
 (.seq (.seq (.region [⟨(some 8), 8, .move, [.t 0], none⟩,
  ⟨(some 9), 9, (.len false), [.t 8], none⟩,
  ⟨(some 10), 10, .move, [.c (.int .i64 (0))], none⟩])
 (.block 0 (.loopT (ByteArray × Int) (fun x => ⟨[.slice .ro 2 a.length (gl e_api_Label a), .dead, .dead, .str x.1, .dead, .dead, .dead, .dead, .dead, .int .i64 (a.length : Int), .int .i64 x.2, .dead, .dead, .dead, .dead, .dead, .dead, .dead, .dead, .dead, .dead, .dead, .dead, .dead, .dead, .dead, .dead, .dead, .dead, .dead], [], []⟩) 11 38 (.seq (.region [⟨(some 11), 11, (.bin .lss), [.t 10, .t 9], none⟩])
 (.seq (.cond (.t 11) (.skip) (.exit 0))
 (.seq (.block 1 (.seq (.region [⟨(some 12), 12, .move, [.t 10], none⟩,
  ⟨(some 4), 13, .move, [.t 12], none⟩])
 (.region [⟨(some 13), 14, .move, [.t 3], none⟩,
  ⟨(some 14), 15, .move, [.t 0], none⟩,
  ⟨(some 15), 16, .move, [.t 4], none⟩,
  ⟨(some 16), 17, (.indexAddr 2 none), [.t 14, .t 15], none⟩,
  ⟨(some 17), 18, (.fieldAddr 0), [.t 16], none⟩,
  ⟨(some 18), 19, (.load false 1), [.t 17], none⟩,
  ⟨(some 19), 20, (.call false 17), [.t 18], none⟩,
  ⟨(some 20), 24, (.bin .add), [.t 13, .t 19], none⟩,
  ⟨(some 21), 25, .move, [.t 0], none⟩,
  ⟨(some 22), 26, .move, [.t 4], none⟩,
  ⟨(some 23), 27, (.indexAddr 2 none), [.t 21, .t 22], none⟩,
  ⟨(some 24), 28, (.fieldAddr 1), [.t 23], none⟩,
  ⟨(some 25), 29, (.load false 1), [.t 24], none⟩,
  ⟨(some 26), 30, (.call false 17), [.t 25], none⟩,
  ⟨(some 27), 34, (.bin .add), [.t 20, .t 26], none⟩,
  ⟨(some 3), 35, .move, [.t 27], none⟩])))
 (.region [⟨(some 28), 36, (.bin .add), [.t 10, .c (.int .i64 (1))], none⟩,
  ⟨(some 10), 37, .move, [.t 28], none⟩])))))))
 (.seq (.region [⟨(some 29), 38, .move, [.t 3], none⟩,
  ⟨(some 2), 39, .move, [.t 29], none⟩])
 (.ret)))))
  [.tmp 2] 0 29
def f64.env : Env := [(65, f65.C), (17, f17.C)]
def f64.tree (a : List (T_api_Label)) : Prop := ∃ c1 : Int, ((a.length : Int) = c1) ∧ (number_pre c1) ∧ ∃ (I3 : (ByteArray × Int) → Prop) (μ4 : (ByteArray × Int) → Nat), (∃ x2 : ByteArray × Int, (a.length = a.length) ∧ (∀ i, i < a.length → DEqs ((gl e_api_Label a) i) ((gl e_api_Label a) i)) ∧ ((numS c1) = x2.1) ∧ ((a.length : Int) = (a.length : Int)) ∧ ((0 : Int) = x2.2) ∧ I3 x2) ∧ ∀ y5 : ByteArray × Int, I3 y5 → (Br (decide (y5.2 < (a.length : Int))) (Br (decide ((0 : Int) ≤ y5.2) && decide (y5.2 < (a.length : Int))) (∃ c9 : ByteArray, (((at_ a y5.2).1) = c9) ∧ (text_pre c9) ∧ Br (Nat.ble (y5.1.size + (textS c9).size) 9223372036854775807) (Br (decide ((0 : Int) ≤ y5.2) && decide (y5.2 < (a.length : Int))) (∃ c12 : ByteArray, (((at_ a y5.2).2) = c12) ∧ (text_pre c12) ∧ Br (Nat.ble ((y5.1 ++ (textS c9)).size + (textS c12).size) 9223372036854775807) (Let (IntKind.i64.wrap (y5.2 + (1 : Int))) (fun v14 : Int => ∃ x15 : ByteArray × Int, (a.length = a.length) ∧ (∀ i, i < a.length → DEqs ((gl e_api_Label a) i) ((gl e_api_Label a) i)) ∧ (((y5.1 ++ (textS c9)) ++ (textS c12)) = x15.1) ∧ ((a.length : Int) = (a.length : Int)) ∧ (v14 = x15.2) ∧ I3 x15 ∧ μ4 x15 < μ4 y5)) False) False) False) False) ((y5.1 = (lblsS a)) ∧ True))
def f64.vc (a : List (T_api_Label)) : Prop := (number_pre (a.length : Int) ∧ (∃ (I3 : (ByteArray × Int) → Prop) (μ4 : (ByteArray × Int) → Nat), I3 ((numS (a.length : Int)), (0 : Int)) ∧ ∀ y5 : ByteArray × Int, I3 y5 → ((y5.2 < (a.length : Int) → ((0 : Int) ≤ y5.2 ∧ y5.2 < (a.length : Int) ∧ (text_pre ((at_ a y5.2).1) ∧ ((y5.1.size + (textS ((at_ a y5.2).1)).size ≤ 9223372036854775807) ∧ ((0 : Int) ≤ y5.2 ∧ y5.2 < (a.length : Int) ∧ (text_pre ((at_ a y5.2).2) ∧ (((y5.1 ++ (textS ((at_ a y5.2).1))).size + (textS ((at_ a y5.2).2)).size ≤ 9223372036854775807) ∧ (-9223372036854775808 ≤ (y5.2 + (1 : Int)) ∧ (y5.2 + (1 : Int)) ≤ 9223372036854775807 ∧ (I3 ((y5.1 ++ (textS ((at_ a y5.2).1))) ++ (textS ((at_ a y5.2).2)), (y5.2 + (1 : Int))) ∧ μ4 ((y5.1 ++ (textS ((at_ a y5.2).1))) ++ (textS ((at_ a y5.2).2)), (y5.2 + (1 : Int))) < μ4 y5))))))))) ∧ (¬ (y5.2 < (a.length : Int)) → (y5.1 = lblsS a)))))
set_option maxRecDepth 100000 in
set_option maxHeartbeats 2000000 in
theorem f64.of (a : List (T_api_Label)) (h : f64.vc a) : f64.tree a := ⟨(a.length : Int), ⟨rfl, ⟨h.1, Exists.elim h.2 (fun I3 h29_ => Exists.elim h29_ (fun μ4 h29 => ⟨I3, μ4, ⟨((numS (a.length : Int)), (0 : Int)), slK (Rds.self (enc := e_api_Label)) (⟨rfl, ⟨rfl, ⟨rfl, h29.1⟩⟩⟩)⟩, fun y5 h31 => br (h29.2 y5 h31) Cnd.dec (fun h6 k27 => chk k27.2.2 Cnd.ix ⟨k27.1, k27.2.1⟩ (fun h8 k25 => ⟨(at_ a y5.2).1, ⟨rfl, ⟨k25.1, chk k25.2.2 Cnd.ble k25.2.1 (fun h10 k23 => chk k23.2.2 Cnd.ix ⟨k23.1, k23.2.1⟩ (fun h11 k22 => ⟨(at_ a y5.2).2, ⟨rfl, ⟨k22.1, chk k22.2.2 Cnd.ble k22.2.1 (fun h13 k20 => wrapK.i64 k20 (fun h17 h18 k19 => ⟨((y5.1 ++ (textS ((at_ a y5.2).1))) ++ (textS ((at_ a y5.2).2)), (y5.2 + (1 : Int))), slK (Rds.self (enc := e_api_Label)) (⟨rfl, ⟨rfl, ⟨rfl, k19⟩⟩⟩)⟩))⟩⟩⟩))⟩⟩⟩)) (fun h7 k28 => ⟨k28, trivial⟩)⟩))⟩⟩⟩
theorem f64.eq (a : List (T_api_Label)) : (f64.af a).gives f64.env (f64.args a) (f64.blks a) (f64.res a) (f64.blks' a) = f64.tree a := by kernel_rfl
end Go.Abs

/- interregnum/interregnumref05.number -/
namespace Go.Abs
open Go
set_option linter.unusedVariables false
def f65.kills (a : Int) : List Hint := []
def f65.cuts (a : Int) : List (Nat × Σ β : Type, β → Tm) := []
def f65.af (a : Int) : AF := AF.mk (.seq (.region [⟨(some 2), 0, .move, [.c (.str ByteArray.empty)], none⟩])
 (.seq (.region [⟨(some 3), 1, .move, [.t 0], none⟩,
  ⟨(some 4), 2, (.conv (.int .u64)), [.t 3], none⟩,
  ⟨(some 5), 3, (.call false 15), [.t 4], none⟩,
  ⟨(some 2), 7, .move, [.t 5], none⟩])
 (.ret)))
  [.tmp 2] 0 5
def f65.env : Env := [(15, f15.C)]
def f65.tree (a : Int) : Prop := Let (IntKind.u64.wrap a) (fun v1 : Int => ∃ c2 : Int, (v1 = c2) ∧ (num_pre c2) ∧ ((numS c2) = (numS a)) ∧ True)
def f65.vc (a : Int) : Prop := (0 ≤ a ∧ a ≤ 18446744073709551615 ∧ (num_pre a ∧ ((numS a) = numS a)))
set_option maxRecDepth 100000 in
set_option maxHeartbeats 2000000 in
theorem f65.of (a : Int) (h : f65.vc a) : f65.tree a := wrapK.u64 h (fun h5 h6 k7 => ⟨a, ⟨rfl, ⟨k7.1, ⟨k7.2, trivial⟩⟩⟩⟩)
theorem f65.eq (a : Int) : (f65.af a).gives f65.env (f65.args a) (f65.blks a) (f65.res a) (f65.blks' a) = f65.tree a := by kernel_rfl
end Go.Abs

/- Bytes of tasks: what the code asks is so. -/
namespace Go.Abs
open Go

theorem f60.ok (a : ByteArray) (h : same_pre a) : f60.vc a := by
  unfold same_pre S28 at h
  exact ⟨by omega, empty_app a⟩

theorem f65.ok (a : Int) (h : number_pre a) : f65.vc a := by
  obtain ⟨h0, h1⟩ := h
  exact ⟨h0, by omega, ⟨h0, by omega⟩, rfl⟩

theorem number_of {n : Int} (h : 0 ≤ n ∧ n ≤ 1048576) : number_pre n := ⟨h.1, by omega⟩
theorem numS_size {n : Int} (h : 0 ≤ n ∧ n ≤ 1048576) : (numS n).size ≤ 9 := num_small (by omega)

theorem f63.ok (a : TRes) (h : amt_pre a) : f63.vc a := by
  obtain ⟨h1, h2, h3⟩ := rightB_iff.1 h
  have s1 := numS_size h1
  have s2 := numS_size h2
  have s3 := numS_size h3
  refine ⟨number_of h1, number_of h2, by omega, number_of h3, by rw [app_size]; omega, rfl⟩

theorem f62.ok (a : ByteArray × TRes) (h : putAmt_pre a) : f62.vc a := by
  obtain ⟨h0, h⟩ := h
  obtain ⟨h1, h2, h3⟩ := rightB_iff.1 h
  unfold S28 at h0
  have s1 := numS_size h1
  have s2 := numS_size h2
  have s3 := numS_size h3
  unfold numS at s1 s2 s3
  refine ⟨by omega, by omega, ⟨by simp only; omega, by simp only; unfold U64; omega⟩, by omega, by omega, ⟨?_, by simp only; unfold U64; omega⟩, by omega, by omega, ⟨?_, by simp only; unfold U64; omega⟩, ?_⟩
  · simp only [putB, app_size]; omega
  · simp only [putB, app_size]; omega
  · simp only [putB, putAmt, amtS, app_assoc]

theorem f64.ok (a : List TLbl) (h : lblsS_pre a) : f64.vc a := by
  unfold lblsS_pre at h
  have hl := (labelsB_iff.1 h).1
  have hz := lbl_size h
  refine ⟨⟨by omega, by omega⟩, fun y => 0 ≤ y.2 ∧ y.2 ≤ (a.length : Int) ∧ y.1 = num a.length ++ lblsS0 (a.take y.2.toNat), fun y => a.length - y.2.toNat, ⟨by simp only; omega, by simp only; omega, ?_⟩, fun y hy => ?_⟩
  · simp [lblsS0, numS]
  · obtain ⟨b, y⟩ := y
    obtain ⟨g0, g1, g2⟩ := hy
    simp only at g0 g1 g2 ⊢
    refine ⟨fun hlt => ?_, fun hge => ?_⟩
    · have hm := hz _ (at_mem g0 hlt)
      have z1 := textS_size (s := (at_ a y).1) (by omega)
      have z2 := textS_size (s := (at_ a y).2) (by omega)
      have hb : b.size ≤ 300 := by
        subst g2
        have := lblsS0_size (l := a.take y.toNat) (fun x hx => hz x (List.mem_of_mem_take hx))
        have e := num_small (n := a.length) (by omega)
        rw [List.length_take] at this
        rw [app_size]
        omega
      have t1 : text_pre (at_ a y).1 := by unfold text_pre; omega
      have t2 : text_pre (at_ a y).2 := by unfold text_pre; omega
      refine ⟨g0, hlt, t1, by omega, g0, hlt, t2, by rw [app_size]; omega, by omega, by omega, ⟨by omega, by omega, ?_⟩, by omega⟩
      rw [show (y + 1).toNat = y.toNat + 1 from by omega, lblsS0_take (by omega), g2, at_getD]
      simp only [app_assoc]
    · rw [g2, List.take_of_length_le (by omega)]
      rfl

theorem f61.ok (a : ByteArray × List TLbl) (h : putLbls_pre a) : f61.vc a := by
  obtain ⟨p, a⟩ := a
  obtain ⟨h0, h⟩ := h
  simp only at h0 h
  unfold S27 at h0
  have hl := (labelsB_iff.1 h).1
  have hz := lbl_size h
  refine ⟨by simp only; omega, by simp only; omega, ⟨by simp only; omega, by simp only; unfold U64; omega⟩, fun y => 0 ≤ y.2 ∧ y.2 ≤ (a.length : Int) ∧ y.1 = p ++ (num a.length ++ lblsS0 (a.take y.2.toNat)), fun y => a.length - y.2.toNat, ⟨by simp only; omega, by simp only; omega, ?_⟩, fun y hy => ?_⟩
  · simp [lblsS0, putB]
  · obtain ⟨b, y⟩ := y
    obtain ⟨g0, g1, g2⟩ := hy
    simp only at g0 g1 g2 ⊢
    refine ⟨fun hlt => ?_, fun hge => ?_⟩
    · have hm := hz _ (at_mem g0 hlt)
      have z1 := textS_size (s := (at_ a y).1) (by omega)
      have z2 := textS_size (s := (at_ a y).2) (by omega)
      have hb : b.size ≤ 300 + p.size := by
        subst g2
        have := lblsS0_size (l := a.take y.toNat) (fun x hx => hz x (List.mem_of_mem_take hx))
        have e := num_small (n := a.length) (by omega)
        rw [List.length_take] at this
        rw [app_size, app_size]
        omega
      have et : ∀ (b s : ByteArray), putText (b, s) = b ++ textS s := fun b s => by unfold putText textS; rw [app_assoc]
      refine ⟨g0, hlt, ⟨by simp only; omega, by simp only; omega⟩, ⟨?_, by simp only; omega⟩, by omega, by omega, ⟨by omega, by omega, ?_⟩, by omega⟩
      · simp only [et, app_size]; omega
      · rw [show (y + 1).toNat = y.toNat + 1 from by omega, lblsS0_take (by omega), et, et, g2, at_getD]
        simp only [app_assoc]
    · rw [g2, List.take_of_length_le (by omega)]
      rfl

theorem putText_eq (b s : ByteArray) : putText (b, s) = b ++ textS s := by unfold putText textS; rw [app_assoc]

theorem f39.ok (a : ByteArray × TNode) (h : putNode_pre a) : f39.vc a := by
  obtain ⟨p, n⟩ := a
  obtain ⟨h0, h1⟩ := h
  simp only at h0 h1
  refine ⟨h1, fun c => ⟨by show p.size ≤ _; omega, ?_⟩, fun c => ?_⟩
  · unfold putNode nodeS sameB
    simp only
    rw [if_neg c, app_empty]
  · have c : nodeB n = true := Classical.not_not.1 c
    obtain ⟨n1, n2, n3⟩ := nodeB_iff.1 c
    have a1 := name_size n1
    have a2 := textS_size (s := n.1) (by omega)
    have a3 := amtS_size n2
    refine ⟨⟨by simp only; omega, by simp only; omega⟩, ⟨?_, n2⟩, ⟨?_, n3⟩, ?_⟩
    · simp only [putText_eq]; unfold S28; rw [app_size]; omega
    · simp only [putText_eq, putAmt]; unfold S27; rw [app_size, app_size]; omega
    · simp only [putText_eq, putAmt, putLbls, putNode, nodeS, nodeS0, c, if_true, app_assoc]

theorem f41.ok (a : ByteArray × TQueue) (h : putQueue_pre a) : f41.vc a := by
  obtain ⟨p, n⟩ := a
  obtain ⟨h0, h1⟩ := h
  simp only at h0 h1
  refine ⟨h1, fun c => ⟨by show p.size ≤ _; omega, ?_⟩, fun c => ?_⟩
  · unfold putQueue queueS sameB
    simp only
    rw [if_neg c, app_empty]
  · have c : queueB n = true := Classical.not_not.1 c
    obtain ⟨n1, n2⟩ := queueB_iff.1 c
    have a1 := name_size n1
    have a2 := textS_size (s := n.1) (by omega)
    refine ⟨⟨by simp only; omega, by simp only; omega⟩, ⟨?_, n2⟩, ?_⟩
    · simp only [putText_eq]; unfold S28; rw [app_size]; omega
    · simp only [putText_eq, putAmt, putQueue, queueS, queueS0, c, if_true, app_assoc]

theorem f43.ok (a : ByteArray × TTask) (h : putTask_pre a) : f43.vc a := by
  obtain ⟨p, t⟩ := a
  obtain ⟨h0, h1⟩ := h
  simp only at h0 h1
  refine ⟨h1, fun c => ⟨by show p.size ≤ _; omega, ?_⟩, fun c => ?_⟩
  · unfold putTask taskS sameB
    simp only
    rw [if_neg c, app_empty]
  · have c : taskB t = true := Classical.not_not.1 c
    obtain ⟨h1, h2, h3, h4, h5, h6, h7, h8⟩ := taskB_iff.1 c
    have a1 := name_size h1
    have a2 := name_size h2
    have a6 := maybe_size h6
    have a7 := maybe_size h7
    have b1 := textS_size (s := t.1) (by omega)
    have b2 := textS_size (s := t.2.1) (by omega)
    have b3 := num_small (n := t.2.2.1.toNat) (by omega)
    have b4 := amtS_size h4
    have b5 := lblsS_size h5
    have b6 := textS_size (s := t.2.2.2.2.2.1) (by omega)
    have b7 := textS_size (s := t.2.2.2.2.2.2.1) (by omega)
    have hn : 0 ≤ t.2.2.2.2.2.2.2 ∧ t.2.2.2.2.2.2.2 ≤ 4 := by rcases sizeB_iff.1 h8 with h | h <;> omega
    refine ⟨⟨by simp only; omega, by simp only; omega⟩, ⟨?_, by simp only; omega⟩, h3.1, by simp only; omega, ⟨?_, by simp only; unfold U64; omega⟩, ⟨?_, h4⟩, ⟨?_, h5⟩, ⟨?_, by simp only; omega⟩, ⟨?_, by simp only; omega⟩, hn.1, by simp only; omega, ⟨?_, by simp only; unfold U64; omega⟩, ?_⟩
    all_goals try (simp only [putText_eq, putAmt, putLbls, putB, S28, S27, app_size]; omega)
    simp only [putText_eq, putAmt, putLbls, putB, putTask, taskS, taskS0, c, if_true, app_assoc]

theorem f40.ok (a : TNode) (h : node_pre a) : f40.vc a := by
  refine ⟨h, fun c => ?_, fun c => ?_⟩
  · unfold nodeS
    rw [if_neg c]
  · have c := Classical.not_not.1 c
    obtain ⟨n1, n2, n3⟩ := nodeB_iff.1 c
    have a1 := name_size n1
    have a2 := textS_size (s := a.1) (by omega)
    have a3 := amtS_size n2
    have a4 := lblsS_size n3
    refine ⟨by unfold text_pre; omega, n2, by omega, n3, by rw [app_size]; omega, ?_⟩
    simp only [nodeS, nodeS0, c, if_true]

theorem f42.ok (a : TQueue) (h : queue_pre a) : f42.vc a := by
  refine ⟨h, fun c => ?_, fun c => ?_⟩
  · unfold queueS
    rw [if_neg c]
  · have c := Classical.not_not.1 c
    obtain ⟨n1, n2⟩ := queueB_iff.1 c
    have a1 := name_size n1
    have a2 := textS_size (s := a.1) (by omega)
    have a3 := amtS_size n2
    refine ⟨by unfold text_pre; omega, n2, by omega, ?_⟩
    simp only [queueS, queueS0, c, if_true]

theorem f44.ok (a : TTask) (h : task_pre a) : f44.vc a := by
  refine ⟨h, fun c => ?_, fun c => ?_⟩
  · unfold taskS
    rw [if_neg c]
  · have c := Classical.not_not.1 c
    obtain ⟨h1, h2, h3, h4, h5, h6, h7, h8⟩ := taskB_iff.1 c
    have a1 := name_size h1
    have a2 := name_size h2
    have a6 := maybe_size h6
    have a7 := maybe_size h7
    have b1 := textS_size (s := a.1) (by omega)
    have b2 := textS_size (s := a.2.1) (by omega)
    have b3 := num_small (n := a.2.2.1.toNat) (by omega)
    have b4 := amtS_size h4
    have b5 := lblsS_size h5
    have b6 := textS_size (s := a.2.2.2.2.2.1) (by omega)
    have b7 := textS_size (s := a.2.2.2.2.2.2.1) (by omega)
    have hn : 0 ≤ a.2.2.2.2.2.2.2 ∧ a.2.2.2.2.2.2.2 ≤ 4 := by rcases sizeB_iff.1 h8 with h | h <;> omega
    have b8 := num_small (n := a.2.2.2.2.2.2.2.toNat) (by omega)
    refine ⟨by unfold text_pre; omega, by unfold text_pre; omega, ?_, number_of ⟨h3.1, by omega⟩, ?_, h4, ?_, h5, ?_, by unfold text_pre; omega, ?_, by unfold text_pre; omega, ?_, number_of ⟨hn.1, by omega⟩, ?_, ?_⟩
    all_goals first | omega | (simp only [numS, app_size]; omega) | skip
    unfold taskS
    rw [if_pos c]
    rfl

theorem labs5_iff {l : List TLbl} : labs5 l = true ↔ l.length ≤ 100 ∧ ∀ i, i < l.length → (l.getD i default).1.size + (l.getD i default).2.size ≤ 1000 := by
  unfold labs5
  simp only [Bool.and_eq_true, decide_eq_true_eq, List.all_eq_true, List.mem_range]

theorem labs5_false {l : List TLbl} (h : ¬ labs5 l = true) : false = labs5 l := (Bool.eq_false_iff.2 h).symm

theorem f47.ok (a : List TLbl) (h : lbls_pre a) : f47.vc a := by
  refine ⟨fun c => labs5_false fun hh => by have := (labs5_iff.1 hh).1; omega, fun c => ?_⟩
  refine ⟨fun y => 0 ≤ y ∧ y ≤ (a.length : Int) ∧ (∀ i, i < y.toNat → (a.getD i default).1.size + (a.getD i default).2.size ≤ 1000), fun y => a.length - y.toNat, ⟨by omega, by omega, fun i hi => by simp at hi⟩, fun y hy => ?_⟩
  obtain ⟨g0, g1, g2⟩ := hy
  refine ⟨fun hlt => ?_, fun hge => ?_⟩
  · obtain ⟨n1, n2⟩ := h _ (at_mem g0 hlt)
    refine ⟨g0, hlt, g0, hlt, by omega, by omega, fun d => labs5_false fun hh => ?_, fun d => ⟨by omega, by omega, ⟨by omega, by omega, fun i hi => ?_⟩, by simp only; omega⟩⟩
    · have := (labs5_iff.1 hh).2 y.toNat (by omega)
      rw [← at_getD] at this
      omega
    · by_cases he : i = y.toNat
      · subst he
        rw [← at_getD]
        omega
      · exact g2 i (by omega)
  · symm
    rw [labs5_iff]
    exact ⟨by omega, fun i hi => g2 i (by omega)⟩

theorem f23.ok (a : TNode × TQueue × TTask) (h : few5_pre a) : f23.vc a := by
  obtain ⟨⟨p1, p2⟩, p3, q1, q2, q3, q4, q5⟩ := h
  unfold queue_pre at p3
  unfold name_pre at p1 p3 q1 q2 q4 q5
  refine ⟨p2, fun c1 => ⟨q3, fun c2 => ⟨by omega, by omega, by omega, by omega, by omega, by omega, by omega, by omega, by omega, by omega, ?_⟩, fun c2 => ?_⟩, fun c1 => ?_⟩
  · unfold few5
    rw [c1, c2, Bool.true_and, Bool.true_and]
    rw [Bool.eq_iff_iff, decide_eq_true_eq, decide_eq_true_eq]
    omega
  · unfold few5
    rw [c1, Bool.eq_false_iff.2 c2]
    rfl
  · unfold few5
    rw [Bool.eq_false_iff.2 c1]
    rfl

end Go.Abs

-- interregnum/interregnumlaw05.ModelRights
namespace Go.Abs
open Go
def f12.wf (a : ByteArray × T_api_Node × T_api_Queue × T_api_Task) : Prop := k_str.ok a.1 ∧ k_api_Node.ok a.2.1 ∧ k_api_Queue.ok a.2.2.1 ∧ k_api_Task.ok a.2.2.2
def f12.size (a : ByteArray × T_api_Node × T_api_Queue × T_api_Task) : Nat := k_str.size a.1 + (k_api_Node.size a.2.1 + (k_api_Queue.size a.2.2.1 + (k_api_Task.size a.2.2.2)))
def f12.lpre (a : ByteArray × T_api_Node × T_api_Queue × T_api_Task) : Prop := f12.wf a ∧ f12.size a ≤ 1048576
def f12.args (a : ByteArray × T_api_Node × T_api_Queue × T_api_Task) : List D := [.str a.1, .agg [.str a.2.1.1, .int .i64 a.2.1.2.1.1, .int .i64 a.2.1.2.1.2.1, .int .i64 a.2.1.2.1.2.2, .slice .ro 2 a.2.1.2.2.length (gl e_api_Label a.2.1.2.2)], .agg [.str a.2.2.1.1, .int .i64 a.2.2.1.2.1, .int .i64 a.2.2.1.2.2.1, .int .i64 a.2.2.1.2.2.2], .agg [.str a.2.2.2.1, .str a.2.2.2.2.1, .int .i64 a.2.2.2.2.2.1, .int .i64 a.2.2.2.2.2.2.1.1, .int .i64 a.2.2.2.2.2.2.1.2.1, .int .i64 a.2.2.2.2.2.2.1.2.2, .slice .ro 2 a.2.2.2.2.2.2.2.1.length (gl e_api_Label a.2.2.2.2.2.2.2.1), .str a.2.2.2.2.2.2.2.2.1, .str a.2.2.2.2.2.2.2.2.2.1, .int .i64 a.2.2.2.2.2.2.2.2.2.2]]
def f12.blks (a : ByteArray × T_api_Node × T_api_Queue × T_api_Task) : List (List D) := []
def f12.res (a : ByteArray × T_api_Node × T_api_Queue × T_api_Task) : List D := [.bool (lawTrue a)]
def f12.blks' (a : ByteArray × T_api_Node × T_api_Queue × T_api_Task) : List (List D) := []
def f12.C : Contract := FnC f12.args f12.blks (fun a => f12.lpre a) f12.res f12.blks'
end Go.Abs

/- interregnum/interregnumlaw05.ModelRights -/
namespace Go.Abs
open Go
set_option linter.unusedVariables false
def f12.kills (a : ByteArray × T_api_Node × T_api_Queue × T_api_Task) : List Hint := []
def f12.cuts (a : ByteArray × T_api_Node × T_api_Queue × T_api_Task) : List (Nat × Σ β : Type, β → Tm) := []
def f12.af (a : ByteArray × T_api_Node × T_api_Queue × T_api_Task) : AF := AF.mk (.seq (.region [⟨(some 5), 0, .box, [.t 1], none⟩,
  ⟨(some 6), 1, .box, [.t 2], none⟩,
  ⟨(some 7), 2, .box, [.t 3], none⟩,
  ⟨(some 8), 3, .move, [.c (.bool false)], none⟩])
 (.seq (.seq (.region [⟨(some 9), 4, (.call false 22), [], none⟩,
  ⟨(some 10), 8, (.un .not), [.t 9], none⟩,
  ⟨(some 11), 9, .move, [.t 10], none⟩,
  ⟨(some 12), 10, (.load true 5), [.t 5], (some (11, false))⟩,
  ⟨(some 13), 11, (.load true 4), [.t 6], (some (11, false))⟩,
  ⟨(some 14), 12, (.load true 10), [.t 7], (some (11, false))⟩,
  ⟨(some 15), 13, (.call false 23), [.t 12, .t 13, .t 14], (some (11, false))⟩,
  ⟨(some 16), 17, (.un .not), [.t 15], (some (11, false))⟩,
  ⟨(some 17), 18, .pick, [.t 11, .c (.bool true), .t 16], none⟩])
 (.cond (.t 17) (.seq (.region [⟨(some 18), 19, (.call false 22), [], none⟩,
  ⟨(some 8), 23, .move, [.t 18], none⟩])
 (.ret)) (.skip)))
 (.seq (.seq (.region [⟨(some 19), 24, (.load true 5), [.t 5], none⟩,
  ⟨(some 20), 25, (.call false 35), [.t 19], none⟩,
  ⟨(some 21), 29, (.load true 5), [.t 5], none⟩,
  ⟨(some 22), 30, (.call false 36), [.t 21], none⟩,
  ⟨(some 23), 34, (.binB true), [.t 20, .t 22], none⟩,
  ⟨(some 24), 35, .move, [.t 23], none⟩,
  ⟨(some 25), 36, (.load true 4), [.t 6], (some (24, false))⟩,
  ⟨(some 26), 37, (.call false 25), [.t 25], (some (24, false))⟩,
  ⟨(some 27), 41, (.load true 4), [.t 6], (some (24, false))⟩,
  ⟨(some 28), 42, (.call false 37), [.t 27], (some (24, false))⟩,
  ⟨(some 29), 46, (.binB true), [.t 26, .t 28], (some (24, false))⟩,
  ⟨(some 30), 47, .pick, [.t 24, .c (.bool true), .t 29], none⟩,
  ⟨(some 31), 48, .move, [.t 30], none⟩,
  ⟨(some 32), 49, (.load true 10), [.t 7], (some (31, false))⟩,
  ⟨(some 33), 50, (.call false 24), [.t 32], (some (31, false))⟩,
  ⟨(some 34), 54, (.load true 10), [.t 7], (some (31, false))⟩,
  ⟨(some 35), 55, (.call false 38), [.t 34], (some (31, false))⟩,
  ⟨(some 36), 59, (.binB true), [.t 33, .t 35], (some (31, false))⟩,
  ⟨(some 37), 60, .pick, [.t 31, .c (.bool true), .t 36], none⟩])
 (.cond (.t 37) (.seq (.region [⟨(some 8), 61, .move, [.c (.bool false)], none⟩])
 (.ret)) (.skip)))
 (.seq (.region [⟨(some 38), 62, .move, [.t 0], none⟩,
  ⟨(some 39), 63, (.conv .s2b), [.t 38], none⟩,
  ⟨(some 40), 64, (.load true 5), [.t 5], none⟩,
  ⟨(some 41), 65, (.call false 39), [.t 39, .t 40], none⟩,
  ⟨(some 42), 69, (.conv .b2s), [.t 41], none⟩,
  ⟨(some 43), 70, .move, [.t 0], none⟩,
  ⟨(some 44), 71, (.load true 5), [.t 5], none⟩,
  ⟨(some 45), 72, (.call false 40), [.t 44], none⟩,
  ⟨(some 46), 76, (.bin .add), [.t 43, .t 45], none⟩,
  ⟨(some 47), 77, (.bin .eql), [.t 42, .t 46], none⟩,
  ⟨(some 48), 78, .move, [.t 47], none⟩,
  ⟨(some 49), 79, .move, [.t 0], (some (48, true))⟩,
  ⟨(some 50), 80, (.conv .s2b), [.t 49], (some (48, true))⟩,
  ⟨(some 51), 81, (.load true 4), [.t 6], (some (48, true))⟩,
  ⟨(some 52), 82, (.call false 41), [.t 50, .t 51], (some (48, true))⟩,
  ⟨(some 53), 86, (.conv .b2s), [.t 52], (some (48, true))⟩,
  ⟨(some 54), 87, .move, [.t 0], (some (48, true))⟩,
  ⟨(some 55), 88, (.load true 4), [.t 6], (some (48, true))⟩,
  ⟨(some 56), 89, (.call false 42), [.t 55], (some (48, true))⟩,
  ⟨(some 57), 93, (.bin .add), [.t 54, .t 56], (some (48, true))⟩,
  ⟨(some 58), 94, (.bin .eql), [.t 53, .t 57], (some (48, true))⟩,
  ⟨(some 59), 95, .pick, [.t 48, .t 58, .c (.bool false)], none⟩,
  ⟨(some 60), 96, .move, [.t 59], none⟩,
  ⟨(some 61), 97, .move, [.t 0], (some (60, true))⟩,
  ⟨(some 62), 98, (.conv .s2b), [.t 61], (some (60, true))⟩,
  ⟨(some 63), 99, (.load true 10), [.t 7], (some (60, true))⟩,
  ⟨(some 64), 100, (.call false 43), [.t 62, .t 63], (some (60, true))⟩,
  ⟨(some 65), 104, (.conv .b2s), [.t 64], (some (60, true))⟩,
  ⟨(some 66), 105, .move, [.t 0], (some (60, true))⟩,
  ⟨(some 67), 106, (.load true 10), [.t 7], (some (60, true))⟩,
  ⟨(some 68), 107, (.call false 44), [.t 67], (some (60, true))⟩,
  ⟨(some 69), 111, (.bin .add), [.t 66, .t 68], (some (60, true))⟩,
  ⟨(some 70), 112, (.bin .eql), [.t 65, .t 69], (some (60, true))⟩,
  ⟨(some 71), 113, .pick, [.t 60, .t 70, .c (.bool false)], none⟩,
  ⟨(some 8), 114, .move, [.t 71], none⟩])
 (.ret)))))
  [.tmp 8] 0 68
def f12.env : Env := [(22, f22.C), (23, f23.C), (35, f35.C), (36, f36.C), (25, f25.C), (37, f37.C), (24, f24.C), (38, f38.C), (39, f39.C), (40, f40.C), (41, f41.C), (42, f42.C), (43, f43.C), (44, f44.C)]
def f12.tree (a : ByteArray × T_api_Node × T_api_Queue × T_api_Task) : Prop := ∃ c1 : Unit, True ∧ Br (!(lawTrue c1)) (∃ c4 : Unit, True ∧ ((lawTrue c4) = (lawTrue a)) ∧ True) (∃ c7 : T_api_Node × T_api_Queue × T_api_Task, (a.2.1.1 = c7.1.1) ∧ (a.2.1.2.1.1 = c7.1.2.1.1) ∧ (a.2.1.2.1.2.1 = c7.1.2.1.2.1) ∧ (a.2.1.2.1.2.2 = c7.1.2.1.2.2) ∧ (a.2.1.2.2.length = c7.1.2.2.length) ∧ (∀ i, i < c7.1.2.2.length → DEqs ((gl e_api_Label a.2.1.2.2) i) ((gl e_api_Label c7.1.2.2) i)) ∧ (a.2.2.1.1 = c7.2.1.1) ∧ (a.2.2.1.2.1 = c7.2.1.2.1) ∧ (a.2.2.1.2.2.1 = c7.2.1.2.2.1) ∧ (a.2.2.1.2.2.2 = c7.2.1.2.2.2) ∧ (a.2.2.2.1 = c7.2.2.1) ∧ (a.2.2.2.2.1 = c7.2.2.2.1) ∧ (a.2.2.2.2.2.1 = c7.2.2.2.2.1) ∧ (a.2.2.2.2.2.2.1.1 = c7.2.2.2.2.2.1.1) ∧ (a.2.2.2.2.2.2.1.2.1 = c7.2.2.2.2.2.1.2.1) ∧ (a.2.2.2.2.2.2.1.2.2 = c7.2.2.2.2.2.1.2.2) ∧ (a.2.2.2.2.2.2.2.1.length = c7.2.2.2.2.2.2.1.length) ∧ (∀ i, i < c7.2.2.2.2.2.2.1.length → DEqs ((gl e_api_Label a.2.2.2.2.2.2.2.1) i) ((gl e_api_Label c7.2.2.2.2.2.2.1) i)) ∧ (a.2.2.2.2.2.2.2.2.1 = c7.2.2.2.2.2.2.2.1) ∧ (a.2.2.2.2.2.2.2.2.2.1 = c7.2.2.2.2.2.2.2.2.1) ∧ (a.2.2.2.2.2.2.2.2.2.2 = c7.2.2.2.2.2.2.2.2.2) ∧ (few5_pre c7) ∧ Br (!(few5 c7)) (∃ c10 : Unit, True ∧ ((lawTrue c10) = (lawTrue a)) ∧ True) (∃ c13 : T_api_Node, (a.2.1.1 = c13.1) ∧ (a.2.1.2.1.1 = c13.2.1.1) ∧ (a.2.1.2.1.2.1 = c13.2.1.2.1) ∧ (a.2.1.2.1.2.2 = c13.2.1.2.2) ∧ (a.2.1.2.2.length = c13.2.2.length) ∧ (∀ i, i < c13.2.2.length → DEqs ((gl e_api_Label a.2.1.2.2) i) ((gl e_api_Label c13.2.2) i)) ∧ (node_pre c13) ∧ ∃ c14 : T_api_Node, (a.2.1.1 = c14.1) ∧ (a.2.1.2.1.1 = c14.2.1.1) ∧ (a.2.1.2.1.2.1 = c14.2.1.2.1) ∧ (a.2.1.2.1.2.2 = c14.2.1.2.2) ∧ (a.2.1.2.2.length = c14.2.2.length) ∧ (∀ i, i < c14.2.2.length → DEqs ((gl e_api_Label a.2.1.2.2) i) ((gl e_api_Label c14.2.2) i)) ∧ (node_pre c14) ∧ Br (!((nodeB c13) == (nodeB c14))) ((false = (lawTrue a)) ∧ True) (∃ c18 : T_api_Queue, (a.2.2.1.1 = c18.1) ∧ (a.2.2.1.2.1 = c18.2.1) ∧ (a.2.2.1.2.2.1 = c18.2.2.1) ∧ (a.2.2.1.2.2.2 = c18.2.2.2) ∧ (queue_pre c18) ∧ ∃ c19 : T_api_Queue, (a.2.2.1.1 = c19.1) ∧ (a.2.2.1.2.1 = c19.2.1) ∧ (a.2.2.1.2.2.1 = c19.2.2.1) ∧ (a.2.2.1.2.2.2 = c19.2.2.2) ∧ (queue_pre c19) ∧ Br (!((queueB c18) == (queueB c19))) ((false = (lawTrue a)) ∧ True) (∃ c23 : T_api_Task, (a.2.2.2.1 = c23.1) ∧ (a.2.2.2.2.1 = c23.2.1) ∧ (a.2.2.2.2.2.1 = c23.2.2.1) ∧ (a.2.2.2.2.2.2.1.1 = c23.2.2.2.1.1) ∧ (a.2.2.2.2.2.2.1.2.1 = c23.2.2.2.1.2.1) ∧ (a.2.2.2.2.2.2.1.2.2 = c23.2.2.2.1.2.2) ∧ (a.2.2.2.2.2.2.2.1.length = c23.2.2.2.2.1.length) ∧ (∀ i, i < c23.2.2.2.2.1.length → DEqs ((gl e_api_Label a.2.2.2.2.2.2.2.1) i) ((gl e_api_Label c23.2.2.2.2.1) i)) ∧ (a.2.2.2.2.2.2.2.2.1 = c23.2.2.2.2.2.1) ∧ (a.2.2.2.2.2.2.2.2.2.1 = c23.2.2.2.2.2.2.1) ∧ (a.2.2.2.2.2.2.2.2.2.2 = c23.2.2.2.2.2.2.2) ∧ (task_pre c23) ∧ ∃ c24 : T_api_Task, (a.2.2.2.1 = c24.1) ∧ (a.2.2.2.2.1 = c24.2.1) ∧ (a.2.2.2.2.2.1 = c24.2.2.1) ∧ (a.2.2.2.2.2.2.1.1 = c24.2.2.2.1.1) ∧ (a.2.2.2.2.2.2.1.2.1 = c24.2.2.2.1.2.1) ∧ (a.2.2.2.2.2.2.1.2.2 = c24.2.2.2.1.2.2) ∧ (a.2.2.2.2.2.2.2.1.length = c24.2.2.2.2.1.length) ∧ (∀ i, i < c24.2.2.2.2.1.length → DEqs ((gl e_api_Label a.2.2.2.2.2.2.2.1) i) ((gl e_api_Label c24.2.2.2.2.1) i)) ∧ (a.2.2.2.2.2.2.2.2.1 = c24.2.2.2.2.2.1) ∧ (a.2.2.2.2.2.2.2.2.2.1 = c24.2.2.2.2.2.2.1) ∧ (a.2.2.2.2.2.2.2.2.2.2 = c24.2.2.2.2.2.2.2) ∧ (task_pre c24) ∧ Br (!((taskB c23) == (taskB c24))) ((false = (lawTrue a)) ∧ True) (∃ c28 : ByteArray × T_api_Node, (a.1.size = c28.1.size) ∧ (∀ i, i < c28.1.size → DEqs ((gstr a.1) i) ((gstr c28.1) i)) ∧ (a.2.1.1 = c28.2.1) ∧ (a.2.1.2.1.1 = c28.2.2.1.1) ∧ (a.2.1.2.1.2.1 = c28.2.2.1.2.1) ∧ (a.2.1.2.1.2.2 = c28.2.2.1.2.2) ∧ (a.2.1.2.2.length = c28.2.2.2.length) ∧ (∀ i, i < c28.2.2.2.length → DEqs ((gl e_api_Label a.2.1.2.2) i) ((gl e_api_Label c28.2.2.2) i)) ∧ (putNode_pre c28) ∧ Bytes ((putNode c28).size) (gstr (putNode c28)) ∧ Let (textOf ((putNode c28).size) (gstr (putNode c28))) (fun v29 : ByteArray => ∃ c30 : T_api_Node, (a.2.1.1 = c30.1) ∧ (a.2.1.2.1.1 = c30.2.1.1) ∧ (a.2.1.2.1.2.1 = c30.2.1.2.1) ∧ (a.2.1.2.1.2.2 = c30.2.1.2.2) ∧ (a.2.1.2.2.length = c30.2.2.length) ∧ (∀ i, i < c30.2.2.length → DEqs ((gl e_api_Label a.2.1.2.2) i) ((gl e_api_Label c30.2.2) i)) ∧ (node_pre c30) ∧ Br (Nat.ble (a.1.size + (nodeS c30).size) 9223372036854775807) (Br (v29.toList == (a.1 ++ (nodeS c30)).toList) (∃ c34 : ByteArray × T_api_Queue, (a.1.size = c34.1.size) ∧ (∀ i, i < c34.1.size → DEqs ((gstr a.1) i) ((gstr c34.1) i)) ∧ (a.2.2.1.1 = c34.2.1) ∧ (a.2.2.1.2.1 = c34.2.2.1) ∧ (a.2.2.1.2.2.1 = c34.2.2.2.1) ∧ (a.2.2.1.2.2.2 = c34.2.2.2.2) ∧ (putQueue_pre c34) ∧ Bytes ((putQueue c34).size) (gstr (putQueue c34)) ∧ Let (textOf ((putQueue c34).size) (gstr (putQueue c34))) (fun v35 : ByteArray => ∃ c36 : T_api_Queue, (a.2.2.1.1 = c36.1) ∧ (a.2.2.1.2.1 = c36.2.1) ∧ (a.2.2.1.2.2.1 = c36.2.2.1) ∧ (a.2.2.1.2.2.2 = c36.2.2.2) ∧ (queue_pre c36) ∧ Br (Nat.ble (a.1.size + (queueS c36).size) 9223372036854775807) (Br (v35.toList == (a.1 ++ (queueS c36)).toList) (∃ c40 : ByteArray × T_api_Task, (a.1.size = c40.1.size) ∧ (∀ i, i < c40.1.size → DEqs ((gstr a.1) i) ((gstr c40.1) i)) ∧ (a.2.2.2.1 = c40.2.1) ∧ (a.2.2.2.2.1 = c40.2.2.1) ∧ (a.2.2.2.2.2.1 = c40.2.2.2.1) ∧ (a.2.2.2.2.2.2.1.1 = c40.2.2.2.2.1.1) ∧ (a.2.2.2.2.2.2.1.2.1 = c40.2.2.2.2.1.2.1) ∧ (a.2.2.2.2.2.2.1.2.2 = c40.2.2.2.2.1.2.2) ∧ (a.2.2.2.2.2.2.2.1.length = c40.2.2.2.2.2.1.length) ∧ (∀ i, i < c40.2.2.2.2.2.1.length → DEqs ((gl e_api_Label a.2.2.2.2.2.2.2.1) i) ((gl e_api_Label c40.2.2.2.2.2.1) i)) ∧ (a.2.2.2.2.2.2.2.2.1 = c40.2.2.2.2.2.2.1) ∧ (a.2.2.2.2.2.2.2.2.2.1 = c40.2.2.2.2.2.2.2.1) ∧ (a.2.2.2.2.2.2.2.2.2.2 = c40.2.2.2.2.2.2.2.2) ∧ (putTask_pre c40) ∧ Bytes ((putTask c40).size) (gstr (putTask c40)) ∧ Let (textOf ((putTask c40).size) (gstr (putTask c40))) (fun v41 : ByteArray => ∃ c42 : T_api_Task, (a.2.2.2.1 = c42.1) ∧ (a.2.2.2.2.1 = c42.2.1) ∧ (a.2.2.2.2.2.1 = c42.2.2.1) ∧ (a.2.2.2.2.2.2.1.1 = c42.2.2.2.1.1) ∧ (a.2.2.2.2.2.2.1.2.1 = c42.2.2.2.1.2.1) ∧ (a.2.2.2.2.2.2.1.2.2 = c42.2.2.2.1.2.2) ∧ (a.2.2.2.2.2.2.2.1.length = c42.2.2.2.2.1.length) ∧ (∀ i, i < c42.2.2.2.2.1.length → DEqs ((gl e_api_Label a.2.2.2.2.2.2.2.1) i) ((gl e_api_Label c42.2.2.2.2.1) i)) ∧ (a.2.2.2.2.2.2.2.2.1 = c42.2.2.2.2.2.1) ∧ (a.2.2.2.2.2.2.2.2.2.1 = c42.2.2.2.2.2.2.1) ∧ (a.2.2.2.2.2.2.2.2.2.2 = c42.2.2.2.2.2.2.2) ∧ (task_pre c42) ∧ Br (Nat.ble (a.1.size + (taskS c42).size) 9223372036854775807) (((v41.toList == (a.1 ++ (taskS c42)).toList) = (lawTrue a)) ∧ True) False)) ((false = (lawTrue a)) ∧ True)) False)) ((false = (lawTrue a)) ∧ True)) False))))))
def f12.vc (a : ByteArray × T_api_Node × T_api_Queue × T_api_Task) : Prop := ((¬ ((lawTrue ()) = true) → ((lawTrue ()) = lawTrue a)) ∧ (¬ (¬ ((lawTrue ()) = true)) → (few5_pre (a.2.1, a.2.2.1, a.2.2.2) ∧ ((¬ ((few5 (a.2.1, a.2.2.1, a.2.2.2)) = true) → ((lawTrue ()) = lawTrue a)) ∧ (¬ (¬ ((few5 (a.2.1, a.2.2.1, a.2.2.2)) = true)) → (node_pre a.2.1 ∧ (node_pre a.2.1 ∧ (((!((nodeB (a.2.1)) == (nodeB (a.2.1)))) = true → (false = lawTrue a)) ∧ (¬ ((!((nodeB (a.2.1)) == (nodeB (a.2.1)))) = true) → (queue_pre a.2.2.1 ∧ (queue_pre a.2.2.1 ∧ (((!((queueB (a.2.2.1)) == (queueB (a.2.2.1)))) = true → (false = lawTrue a)) ∧ (¬ ((!((queueB (a.2.2.1)) == (queueB (a.2.2.1)))) = true) → (task_pre a.2.2.2 ∧ (task_pre a.2.2.2 ∧ (((!((taskB (a.2.2.2)) == (taskB (a.2.2.2)))) = true → (false = lawTrue a)) ∧ (¬ ((!((taskB (a.2.2.2)) == (taskB (a.2.2.2)))) = true) → (putNode_pre (a.1, a.2.1) ∧ (node_pre a.2.1 ∧ ((a.1.size + (nodeS (a.2.1)).size ≤ 9223372036854775807) ∧ (((putNode (a.1, a.2.1)) = (a.1 ++ (nodeS (a.2.1))) → (putQueue_pre (a.1, a.2.2.1) ∧ (queue_pre a.2.2.1 ∧ ((a.1.size + (queueS (a.2.2.1)).size ≤ 9223372036854775807) ∧ (((putQueue (a.1, a.2.2.1)) = (a.1 ++ (queueS (a.2.2.1))) → (putTask_pre (a.1, a.2.2.2) ∧ (task_pre a.2.2.2 ∧ ((a.1.size + (taskS (a.2.2.2)).size ≤ 9223372036854775807) ∧ (((putTask (a.1, a.2.2.2)).toList == (a.1 ++ (taskS (a.2.2.2))).toList) = lawTrue a))))) ∧ (¬ ((putQueue (a.1, a.2.2.1)) = (a.1 ++ (queueS (a.2.2.1)))) → (false = lawTrue a))))))) ∧ (¬ ((putNode (a.1, a.2.1)) = (a.1 ++ (nodeS (a.2.1)))) → (false = lawTrue a)))))))))))))))))))))))
set_option maxRecDepth 100000 in
set_option maxHeartbeats 2000000 in
theorem f12.of (a : ByteArray × T_api_Node × T_api_Queue × T_api_Task) (h : f12.vc a) : f12.tree a := ⟨(), ⟨trivial, br h (Cnd.not Cnd.b) (fun h2 k75 => ⟨(), ⟨trivial, ⟨k75, trivial⟩⟩⟩) (fun h3 k76 => ⟨(a.2.1, a.2.2.1, a.2.2.2), ⟨rfl, ⟨rfl, ⟨rfl, ⟨rfl, slK (Rds.self (enc := e_api_Label)) (⟨rfl, ⟨rfl, ⟨rfl, ⟨rfl, ⟨rfl, ⟨rfl, ⟨rfl, ⟨rfl, ⟨rfl, ⟨rfl, slK (Rds.self (enc := e_api_Label)) (⟨rfl, ⟨rfl, ⟨rfl, ⟨k76.1, br k76.2 (Cnd.not Cnd.b) (fun h8 k72 => ⟨(), ⟨trivial, ⟨k72, trivial⟩⟩⟩) (fun h9 k73 => ⟨a.2.1, ⟨rfl, ⟨rfl, ⟨rfl, ⟨rfl, slK (Rds.self (enc := e_api_Label)) (⟨k73.1, ⟨a.2.1, ⟨rfl, ⟨rfl, ⟨rfl, ⟨rfl, slK (Rds.self (enc := e_api_Label)) (⟨k73.2.1, br k73.2.2 Cnd.b (fun h15 k68 => ⟨k68, trivial⟩) (fun h16 k69 => ⟨a.2.2.1, ⟨rfl, ⟨rfl, ⟨rfl, ⟨rfl, ⟨k69.1, ⟨a.2.2.1, ⟨rfl, ⟨rfl, ⟨rfl, ⟨rfl, ⟨k69.2.1, br k69.2.2 Cnd.b (fun h20 k64 => ⟨k64, trivial⟩) (fun h21 k65 => ⟨a.2.2.2, ⟨rfl, ⟨rfl, ⟨rfl, ⟨rfl, ⟨rfl, ⟨rfl, slK (Rds.self (enc := e_api_Label)) (⟨rfl, ⟨rfl, ⟨rfl, ⟨k65.1, ⟨a.2.2.2, ⟨rfl, ⟨rfl, ⟨rfl, ⟨rfl, ⟨rfl, ⟨rfl, slK (Rds.self (enc := e_api_Label)) (⟨rfl, ⟨rfl, ⟨rfl, ⟨k65.2.1, br k65.2.2 Cnd.b (fun h25 k60 => ⟨k60, trivial⟩) (fun h26 k61 => ⟨(a.1, a.2.1), slK RdB.self (⟨rfl, ⟨rfl, ⟨rfl, ⟨rfl, slK (Rds.self (enc := e_api_Label)) (⟨k61.1, b2s k61.2 RdB.self (fun h => ⟨a.2.1, ⟨rfl, ⟨rfl, ⟨rfl, ⟨rfl, slK (Rds.self (enc := e_api_Label)) (⟨h.1, chk h.2.2 Cnd.ble h.2.1 (fun h31 k57 => br k57 Cnd.seq (fun h32 k55 => ⟨(a.1, a.2.2.1), slK RdB.self (⟨rfl, ⟨rfl, ⟨rfl, ⟨rfl, ⟨k55.1, b2s k55.2 RdB.self (fun h => ⟨a.2.2.1, ⟨rfl, ⟨rfl, ⟨rfl, ⟨rfl, ⟨h.1, chk h.2.2 Cnd.ble h.2.1 (fun h37 k51 => br k51 Cnd.seq (fun h38 k49 => ⟨(a.1, a.2.2.2), slK RdB.self (⟨rfl, ⟨rfl, ⟨rfl, ⟨rfl, ⟨rfl, ⟨rfl, slK (Rds.self (enc := e_api_Label)) (⟨rfl, ⟨rfl, ⟨rfl, ⟨k49.1, b2s k49.2 RdB.self (fun h => ⟨a.2.2.2, ⟨rfl, ⟨rfl, ⟨rfl, ⟨rfl, ⟨rfl, ⟨rfl, slK (Rds.self (enc := e_api_Label)) (⟨rfl, ⟨rfl, ⟨rfl, ⟨h.1, chk h.2.2 Cnd.ble h.2.1 (fun h43 k45 => ⟨k45, trivial⟩)⟩⟩⟩⟩)⟩⟩⟩⟩⟩⟩⟩)⟩⟩⟩⟩)⟩⟩⟩⟩⟩⟩)⟩) (fun h39 k50 => ⟨k50, trivial⟩))⟩⟩⟩⟩⟩⟩)⟩⟩⟩⟩⟩)⟩) (fun h33 k56 => ⟨k56, trivial⟩))⟩)⟩⟩⟩⟩⟩)⟩)⟩⟩⟩⟩)⟩)⟩⟩⟩⟩)⟩⟩⟩⟩⟩⟩⟩⟩⟩⟩⟩)⟩⟩⟩⟩⟩⟩⟩)⟩⟩⟩⟩⟩⟩⟩⟩⟩⟩⟩⟩)⟩)⟩⟩⟩⟩⟩⟩)⟩⟩⟩⟩⟩)⟩⟩⟩⟩)⟩⟩⟩⟩⟩⟩⟩⟩⟩⟩)⟩⟩⟩⟩⟩)⟩⟩
theorem f12.eq (a : ByteArray × T_api_Node × T_api_Queue × T_api_Task) : (f12.af a).gives f12.env (f12.args a) (f12.blks a) (f12.res a) (f12.blks' a) = f12.tree a := by kernel_rfl
end Go.Abs

/- The laws ModelGangs and ModelRights. -/
namespace Go.Abs
open Go

theorem f22.ok (a : Unit) (_ : True) : f22.vc a := by
  have hq : queueB (f22.s0, ((0 : Int), (0 : Int), (0 : Int))) = true := by decide +kernel
  have hq1 : queueB (f22.s0, ((1 : Int), (0 : Int), (0 : Int))) = true := by decide +kernel
  have e : putQueue (ByteArray.empty, (f22.s0, ((1 : Int), (0 : Int), (0 : Int)))) = ⟨#[1, 1, 113, 1, 1, 0, 0]⟩ := by
    unfold putQueue queueS
    simp only
    rw [if_pos hq1, empty_app]
    apply bytes_ext
    decide +kernel
  unfold f22.vc
  rw [e]
  refine ⟨⟨Nat.le_of_ble_eq_true rfl, Nat.le_of_ble_eq_true rfl⟩, Nat.le_of_ble_eq_true rfl, fun _ => ⟨fun _ => ⟨by decide, rfl⟩, fun h => absurd (by decide) h⟩, fun h => absurd hq h⟩

theorem sum_mem {α : Type} (f : α → Nat) {l : List α} {x : α} (h : x ∈ l) : f x ≤ (l.map f).sum := by
  induction l with
  | nil => cases h
  | cons y l ih =>
    simp only [List.map_cons, List.sum_cons]
    rcases List.mem_cons.1 h with rfl | h
    · omega
    · have := ih h
      omega

theorem lbls_of_size {l : List TLbl} (h : k_sl_api_Label.size l ≤ 1048576) : lbls_pre l := fun x hx => by
  have h1 : k_api_Label.size x ≤ (l.map k_api_Label.size).sum := sum_mem _ hx
  have h2 : (l.map k_api_Label.size).sum + 1 ≤ 1048576 := h
  have h3 : x.1.size + 1 + (x.2.size + 1) + 1 = k_api_Label.size x := rfl
  omega
theorem node_of_size {n : TNode} (h : k_api_Node.size n ≤ 1048576) : node_pre n := by
  have h : n.1.size + 1 + (1 + (1 + 1) + 1 + k_sl_api_Label.size n.2.2) + 1 ≤ 1048576 := h
  exact ⟨by unfold name_pre; omega, lbls_of_size (by omega)⟩
theorem queue_of_size {n : TQueue} (h : k_api_Queue.size n ≤ 1048576) : queue_pre n := by
  have h : n.1.size + 1 + (1 + (1 + 1) + 1) + 1 ≤ 1048576 := h
  unfold queue_pre name_pre
  omega
theorem task_of_size {t : TTask} (h : k_api_Task.size t ≤ 1048576) : task_pre t := by
  have h : t.1.size + 1 + (t.2.1.size + 1 + (1 + (1 + (1 + 1) + 1 + (k_sl_api_Label.size t.2.2.2.2.1 + (t.2.2.2.2.2.1.size + 1 + (t.2.2.2.2.2.2.1.size + 1 + 1)))))) + 1 ≤ 1048576 := h
  refine ⟨?_, ?_, lbls_of_size (by omega), ?_, ?_⟩ <;> unfold name_pre <;> omega

theorem beq_self_not (b : Bool) : ¬ ((!(b == b)) = true) := by cases b <;> simp

theorem f12.ok (a : ByteArray × TNode × TQueue × TTask) (h : f12.lpre a) : f12.vc a := by
  obtain ⟨_, hs⟩ := h
  obtain ⟨b, n, q, t⟩ := a
  have hs : b.size + 1 + (k_api_Node.size n + (k_api_Queue.size q + k_api_Task.size t)) ≤ 1048576 := hs
  have hn := node_of_size (n := n) (by omega)
  have hq := queue_of_size (n := q) (by omega)
  have ht := task_of_size (t := t) (by omega)
  have zn : (nodeS n).size ≤ 300 := by unfold nodeS; split; · rename_i h; exact nodeS0_size h
                                       · exact Nat.zero_le _
  have zq : (queueS q).size ≤ 100 := by unfold queueS; split; · rename_i h; exact queueS0_size h
                                        · exact Nat.zero_le _
  have zt : (taskS t).size ≤ 500 := by unfold taskS; split; · rename_i h; exact taskS0_size h
                                       · exact Nat.zero_le _
  refine ⟨fun _ => rfl, fun _ => ⟨⟨hn, hq, ht⟩, fun _ => rfl, fun _ => ⟨hn, hn, fun c => absurd c (beq_self_not _), fun _ => ⟨hq, hq, fun c => absurd c (beq_self_not _), fun _ => ⟨ht, ht, fun c => absurd c (beq_self_not _), fun _ => ?_⟩⟩⟩⟩⟩
  simp only
  refine ⟨⟨by simp only; omega, hn⟩, hn, by omega, fun _ => ⟨⟨by simp only; omega, hq⟩, hq, by omega, fun _ => ⟨⟨by simp only; omega, ht⟩, ht, by omega, ?_⟩, fun c => absurd rfl c⟩, fun c => absurd rfl c⟩
  show ((b ++ taskS t).toList == (b ++ taskS t).toList) = true
  rw [beq_self_eq_true]

theorem maybe_empty : maybeB ByteArray.empty = true := rfl

theorem task_gang {t : TTask} (h : taskB t = true) (g : ByteArray) (n : Int) : taskB (t.1, t.2.1, t.2.2.1, t.2.2.2.1, t.2.2.2.2.1, t.2.2.2.2.2.1, g, n) = (maybeB g && sizeB g n) := by
  obtain ⟨h1, h2, h3, h4, h5, h6, h7, h8⟩ := taskB_iff.1 h
  rw [Bool.eq_iff_iff, taskB_iff, Bool.and_eq_true]
  exact ⟨fun h => ⟨h.2.2.2.2.2.2.1, h.2.2.2.2.2.2.2⟩, fun h => ⟨h1, h2, h3, h4, h5, h6, h.1, h.2⟩⟩

theorem f7.ok (a : TTask × ByteArray × Int) (h : f7.lpre a) : f7.vc a := by
  obtain ⟨_, hs⟩ := h
  obtain ⟨t, g, n⟩ := a
  have hs : k_api_Task.size t + (g.size + 1 + 1) ≤ 1048576 := hs
  have ht := task_of_size (t := t) (by omega)
  obtain ⟨p1, p2, p3, p4, p5⟩ := ht
  have pre : ∀ (g : ByteArray) (n : Int), name_pre g → task_pre (t.1, t.2.1, t.2.2.1, t.2.2.2.1, t.2.2.2.2.1, t.2.2.2.2.2.1, g, n) := fun g n hg => ⟨p1, p2, p3, p4, hg⟩
  have ge : name_pre ByteArray.empty := Nat.zero_le _
  have gg : name_pre g := by unfold name_pre; omega
  have e0 : sizeB ByteArray.empty n = (n == 0) := rfl
  refine ⟨fun _ => rfl, fun _ => ⟨⟨⟨ge, fun x hx => by cases hx⟩, ge, p1, p2, p3, p4, p5⟩, fun _ => rfl, fun _ => ⟨fun _ => rfl, fun hg => ⟨⟨p1, p2, p3, p4, p5⟩, fun _ => rfl, fun c => ?_⟩⟩⟩⟩
  have c : taskB t = true := Classical.not_not.1 c
  simp only
  refine ⟨pre _ _ ge, fun d => absurd (task_gang c ByteArray.empty 0) (by rw [Bool.eq_false_iff.2 d]; simp [maybe_empty, sizeB, empty_size]), fun d => ⟨pre _ _ ge, fun d => ?_, fun d => ?_⟩⟩
  · rw [task_gang c, maybe_empty, Bool.true_and, e0] at d
    exact absurd d (beq_self_not _)
  · refine ⟨gg, fun e => ⟨pre _ _ gg, ?_⟩, fun e => ⟨pre _ _ gg, fun q => ⟨fun f => ?_, fun f => ?_⟩, fun q => ?_⟩⟩
    · rw [task_gang c, e, maybe_empty, Bool.true_and, e0, beq_self_eq_true]
      rfl
    all_goals
      have hne : g.size ≠ 0 := fun hh => e (size_zero.2 hh)
      rw [task_gang c]
      have hm : maybeB g = nameB g := by
        unfold maybeB
        have : (g.size == 0) = false := by rw [beq_eq_false_iff_ne]; exact hne
        rw [this, Bool.false_or]
      rw [hm]
      have hqq : queueB (g, ((0 : Int), (0 : Int), (0 : Int))) = nameB g := by
        unfold queueB
        simp [rightB, okN]
      rw [hqq] at q
      show _ = true
    · rw [q, Bool.true_and, beq_iff_eq, Bool.eq_iff_iff, sizeB_iff, decide_eq_true_eq]
      omega
    · rw [q, Bool.true_and, beq_iff_eq, Bool.eq_false_iff, Ne, sizeB_iff]
      omega
    · rw [Bool.eq_false_iff.2 q]
      rfl

end Go.Abs
