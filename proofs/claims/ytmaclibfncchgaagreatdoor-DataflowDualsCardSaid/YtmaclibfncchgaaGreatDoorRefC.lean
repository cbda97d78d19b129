import Derived.Test.YtmaclibfncchgaaGreatDoorRefB
set_option linter.all false
/-! Solve of the reference. -/
namespace Go.Proofs
open Go Go.Ab
/-- what a call of Solve is about -/
structure RC where
  B : AH
  β : Nat
  bi : Nat
  bo : Nat
  p : AV
  gv : AV
  kv : AV
  cs : List AV
  gvs : List AV
  kvs : List AV
  nx : List (List Int)
  gs : List (List Int)
  ks : List (List Int)
  fwd : Bool
def sel {α : Type} (t : Bool) (a b : α) : α := match t with | true => a | false => b
abbrev RC.n (c : RC) : Nat := c.nx.length
noncomputable def GK (l : List (List Int)) (a : Nat) : Nat := bitsOf (lx l a)
def Edge (fwd : Bool) (nx : List (List Int)) (s d : Nat) : Prop := match fwd with | true => (d : Int) ∈ lx nx s | false => (s : Int) ∈ lx nx d
structure RC.Ok (c : RC) : Prop where
  box : Box c.B c.β c.p
  fl : Fl c.B c.p c.nx c.cs
  gl : LL c.B c.gv c.gs c.gvs
  kl : LL c.B c.kv c.ks c.kvs
  val : ValidF c.nx
  sg : SetsL c.gs c.nx.length
  sk : SetsL c.ks c.nx.length
  hbi : c.B.next ≤ c.bi
  hbo : c.B.next ≤ c.bo
  ne : c.bi ≠ c.bo
theorem GK_set {A : AH} {v : AV} {ls : List (List Int)} {vs : List AV} {n : Nat} (h : LL A v ls vs) (hs : SetsL ls n) {a : Nat} (ha : a < n) : SetV A (vx vs a) (GK ls a) := by
  have ha' : a < ls.length := by rw [hs.1]; exact ha
  have hS := hs.2 a ha'
  refine ⟨?_, bitsOf_lt hS⟩
  rw [GK, lst_bitsOf hS]
  exact h.el a ha'
structure St (c : RC) (e : En) (A : AH) (I O : Nat → Nat) (more : Bool) (ci co : List AV) : Prop where
  e1 : e.get 1 = .bool c.fwd
  e2 : e.get 2 = c.gv
  e3 : e.get 3 = c.kv
  e4 : e.get 4 = .ptr c.β 0
  e11 : e.get 11 = IV c.nx.length
  e12 : e.get 12 = .slice c.bi 0 c.nx.length c.nx.length true 1
  e13 : e.get 13 = .slice c.bo 0 c.nx.length c.nx.length true 1
  e14 : e.get 14 = .bool more
  ext : Ext c.B A
  ai : ArrV A c.bi c.nx.length ci I c.bi c.bo
  ao : ArrV A c.bo c.nx.length co O c.bi c.bo
abbrev RC.Rn (c : RC) (X0 Y0 I O : Nat → Nat) (more : Bool) : Prop := Rnd c.nx.length (Edge c.fwd c.nx) (GK c.gs) (GK c.ks) X0 Y0 (sel c.fwd I O) (sel c.fwd O I) more
abbrev RC.P1 (c : RC) (X0 Y0 : Nat → Nat) (j : Nat) : Prop := Y0 j = thr (X0 j) (GK c.gs j) (GK c.ks j)
abbrev RC.P2 (c : RC) (X0 Y0 : Nat → Nat) (a : Nat) (x : Int) : Prop := match c.fwd with | true => Sub (Y0 a) (X0 x.toNat) | false => Sub (Y0 x.toNat) (X0 a)
def OutInv (c : RC) (k : Nat) (e : En) (A : AH) : Prop := ∃ I O more ci co, St c e A I O more ci co ∧ GoodF c.nx.length (Edge c.fwd c.nx) (GK c.gs) (GK c.ks) (sel c.fwd I O) (sel c.fwd O I) ∧ k = Ab.left c.nx.length (sel c.fwd I O) (sel c.fwd O I) more ∧ (more = false → Least c.nx.length (Edge c.fwd c.nx) (GK c.gs) (GK c.ks) (sel c.fwd I O) (sel c.fwd O I))
def OutOut (c : RC) (x : Ex) (e : En) (A : AH) : Prop := x = .exit 0 ∧ ∃ I O ci co, St c e A I O false ci co ∧ Least c.nx.length (Edge c.fwd c.nx) (GK c.gs) (GK c.ks) (sel c.fwd I O) (sel c.fwd O I)
def R1 (c : RC) (X0 Y0 : Nat → Nat) (k : Nat) (e : En) (A : AH) : Prop := ∃ a I O more ci co, k = c.nx.length - a ∧ a ≤ c.nx.length ∧ St c e A I O more ci co ∧ e.get 15 = IV (a : Nat) ∧ c.Rn X0 Y0 I O more ∧ (more = false → ∀ j, j < a → c.P1 X0 Y0 j)
def R1out (c : RC) (X0 Y0 : Nat → Nat) (x : Ex) (e : En) (A : AH) : Prop := x = .exit 2 ∧ ∃ I O more ci co, St c e A I O more ci co ∧ c.Rn X0 Y0 I O more ∧ (more = false → ∀ j, j < c.nx.length → c.P1 X0 Y0 j)
def R2 (c : RC) (X0 Y0 : Nat → Nat) (k : Nat) (e : En) (A : AH) : Prop := ∃ a I O more ci co, k = c.nx.length - a ∧ a ≤ c.nx.length ∧ St c e A I O more ci co ∧ e.get 18 = IV (a : Nat) ∧ c.Rn X0 Y0 I O more ∧ (more = false → (∀ j, j < c.nx.length → c.P1 X0 Y0 j) ∧ ∀ j, j < a → ∀ x ∈ lx c.nx j, c.P2 X0 Y0 j x)
def R2out (c : RC) (X0 Y0 : Nat → Nat) (x : Ex) (e : En) (A : AH) : Prop := x = .exit 4 ∧ ∃ I O more ci co, St c e A I O more ci co ∧ c.Rn X0 Y0 I O more ∧ (more = false → (∀ j, j < c.nx.length → c.P1 X0 Y0 j) ∧ ∀ j, j < c.nx.length → ∀ x ∈ lx c.nx j, c.P2 X0 Y0 j x)
def R3 (c : RC) (X0 Y0 : Nat → Nat) (a : Nat) (k : Nat) (e : En) (A : AH) : Prop := ∃ i I O more ci co, k = (lx c.nx a).length - i ∧ i ≤ (lx c.nx a).length ∧ St c e A I O more ci co ∧ e.get 18 = IV (a : Nat) ∧ e.get 19 = IV (i : Nat) ∧ c.Rn X0 Y0 I O more ∧ (more = false → (∀ j, j < c.nx.length → c.P1 X0 Y0 j) ∧ (∀ j, j < a → ∀ x ∈ lx c.nx j, c.P2 X0 Y0 j x) ∧ ∀ x ∈ (lx c.nx a).take i, c.P2 X0 Y0 a x)
def R3out (c : RC) (X0 Y0 : Nat → Nat) (a : Nat) (x : Ex) (e : En) (A : AH) : Prop := x = .exit 6 ∧ ∃ I O more ci co, St c e A I O more ci co ∧ e.get 18 = IV (a : Nat) ∧ c.Rn X0 Y0 I O more ∧ (more = false → (∀ j, j < c.nx.length → c.P1 X0 Y0 j) ∧ ∀ j, j < a + 1 → ∀ x ∈ lx c.nx j, c.P2 X0 Y0 j x)
theorem St.to {c : RC} {e e' : En} {A A' : AH} {I O I' O' : Nat → Nat} {more more' : Bool} {ci co ci' co' : List AV} (s : St c e A I O more ci co) (hk : ∀ t ∈ [1, 2, 3, 4, 11, 12, 13], e'.get t = e.get t) (h14 : e'.get 14 = .bool more') (hx : Ext c.B A') (ai : ArrV A' c.bi c.nx.length ci' I' c.bi c.bo) (ao : ArrV A' c.bo c.nx.length co' O' c.bi c.bo) : St c e' A' I' O' more' ci' co' :=
  ⟨(hk 1 (by simp)).trans s.e1, (hk 2 (by simp)).trans s.e2, (hk 3 (by simp)).trans s.e3, (hk 4 (by simp)).trans s.e4, (hk 11 (by simp)).trans s.e11, (hk 12 (by simp)).trans s.e12, (hk 13 (by simp)).trans s.e13, h14, hx, ai, ao⟩
theorem RC.Ok.pos {c : RC} (h : c.Ok) : 0 < c.B.next := Nat.lt_of_le_of_lt (Nat.zero_le _) h.box.lt
/-- a value that came in lies in neither array -/
theorem RC.Ok.apart {c : RC} (h : c.Ok) {v : AV} (hv : pb v < c.B.next ∨ pb v = 0) : pb v ≠ c.bi ∧ pb v ≠ c.bo := by
  have := h.pos; have := h.hbi; have := h.hbo
  omega
variable [LoopTab]
/-- the answer of Solve -/
def SolveAns (fwd : Bool) (nx gs ks : List (List Int)) (u : AV) (A : AH) : Prop :=
  (¬ (ValidF nx ∧ SetsL gs nx.length ∧ SetsL ks nx.length) ∧ ∃ x y, u = .tup [x, y, IV 1] ∧ LL A x [] [] ∧ LL A y [] []) ∨
  ((ValidF nx ∧ SetsL gs nx.length ∧ SetsL ks nx.length) ∧ ∃ x y I O xs ys, u = .tup [x, y, IV 0] ∧ LL A x (rows nx.length I) xs ∧ LL A y (rows nx.length O) ys ∧ Least nx.length (Edge fwd nx) (GK gs) (GK ks) (sel fwd I O) (sel fwd O I))
set_option maxHeartbeats 0 in
theorem refsolve_spec (A : AH) (p gv kv : AV) (nx gs ks : List (List Int)) (cs gvs kvs : List AV) (fwd : Bool) (h : Fl A p nx cs) (hg : LL A gv gs gvs) (hk : LL A kv ks kvs) : FnW Tryz.prog 8 [.agg [p], .bool fwd, gv, kv] A fun u A' => SolveAns fwd nx gs ks u A' ∧ Ext A A' := by
  refine FnW.body Tryz.func8 (by decide) rfl Tryz.ntmps8 ?_
  generalize hE : bindArgs _ 0 _ = E
  have a0 := (congrArg (fun e => En.get e 0) hE).symm
  simp [bindArgs, kept, En.get_bind] at a0
  have a1 := (congrArg (fun e => En.get e 1) hE).symm
  simp [bindArgs, kept, En.get_bind] at a1
  have a2 := (congrArg (fun e => En.get e 2) hE).symm
  simp [bindArgs, kept, En.get_bind] at a2
  have a3 := (congrArg (fun e => En.get e 3) hE).symm
  simp [bindArgs, kept, En.get_bind] at a3
  clear hE
  refine W.seq ?_
  (refine W.region (by rfl) ?_; (repeat (first | (refine OpsW.step rfl ?_; simp [opV, a0]; done) | (refine OpsW.step rfl ?_; simp [opV, a0]) | (refine OpsW.step ?_ ?_; (focus (simp [wantedA, a0]; done)); simp [opV, a0]) | (refine OpsW.un ?_ ?_; (focus (simp [wantedA, a0]; done))))); (refine OpsW.nil ?_; try simp only [andThen, endBlock]))
  have hb := Box.new A p
  have hx := Ext.box A (.cells [p])
  have hf := h.ext hx
  have hg1 := hg.ext hx
  have hk1 := hk.ext hx
  generalize A.push (.cells [p]) = B at *
  refine W.seq ?_
  refine W.seq ?_
  (refine W.region (by rfl) ?_; (repeat (first | (refine OpsW.step rfl ?_; simp [opV, box_whole hb.get Tryz.sh24]; done) | (refine OpsW.step rfl ?_; simp [opV, box_whole hb.get Tryz.sh24]) | (refine OpsW.step ?_ ?_; (focus (simp [wantedA, box_whole hb.get Tryz.sh24]; done)); simp [opV, box_whole hb.get Tryz.sh24]) | (refine OpsW.un ?_ ?_; (focus (simp [wantedA, box_whole hb.get Tryz.sh24]; done))))))
  (refine FnW.mono (valid_spec B p nx cs hf) ?_; rintro _ A1 ⟨⟨t1, rfl, ht1⟩, hx1⟩)
  have bad : ∀ (A' : AH) (E1 : En), Ext A A' → ¬ (ValidF nx ∧ SetsL gs nx.length ∧ SetsL ks nx.length) → SolveAns fwd nx gs ks (.tup [.nilslice, .nilslice, IV 1]) A' := fun A' _ _ hn => .inl ⟨hn, .nilslice, .nilslice, rfl, ⟨.inl ⟨.inl rfl, rfl, rfl⟩, fun i hi => by simp at hi, by simp⟩, ⟨.inl ⟨.inl rfl, rfl, rfl⟩, fun i hi => by simp at hi, by simp⟩⟩
  cases t1 with
  | false =>
    (repeat (first | (refine OpsW.step rfl ?_; simp [opV]; done) | (refine OpsW.step rfl ?_; simp [opV]) | (refine OpsW.step ?_ ?_; (focus (simp [wantedA]; done)); simp [opV]) | (refine OpsW.un ?_ ?_; (focus (simp [wantedA]; done)))))
    (refine OpsW.nil ?_; try simp only [andThen, endBlock])
    (refine W.cond true ?_ ?_; (focus (simp; done)); simp only [if_true])
    ((try simp only [andThen, endBlock, if_true]); repeat (first | with_reducible refine W.seq ?_ | with_reducible refine W.block ?_ | (refine W.region (by rfl) ?_; (repeat (first | (refine OpsW.step rfl ?_; simp [opV]; done) | (refine OpsW.step rfl ?_; simp [opV]) | (refine OpsW.step ?_ ?_; (focus (simp [wantedA]; done)); simp [opV]) | (refine OpsW.un ?_ ?_; (focus (simp [wantedA]; done))))); (refine OpsW.nil ?_; try simp only [andThen, endBlock]))))
    (refine W.ret ?_; try simp only [andThen, endBlock])
    refine ⟨.inr rfl, [.nilslice, .nilslice, IV 1], by simp [Tryz.f8, resultsA, resultA], ?_⟩
    exact ⟨bad _ E (hx.trans hx1) fun hS => Bool.noConfusion (ht1.2 hS.1), hx.trans hx1⟩
  | true =>
  have hb1 := hb.ext hx1
  (repeat (first | (refine OpsW.step rfl ?_; simp [opV, box_whole hb1.get Tryz.sh24, a2]; done) | (refine OpsW.step rfl ?_; simp [opV, box_whole hb1.get Tryz.sh24, a2]) | (refine OpsW.step ?_ ?_; (focus (simp [wantedA, box_whole hb1.get Tryz.sh24, a2]; done)); simp [opV, box_whole hb1.get Tryz.sh24, a2]) | (refine OpsW.un ?_ ?_; (focus (simp [wantedA, box_whole hb1.get Tryz.sh24, a2]; done)))))
  (refine FnW.mono (sets_spec A1 p nx cs gv gs gvs (hf.ext hx1) (hg1.ext hx1)) ?_; rintro _ A2 ⟨⟨t2, rfl, ht2⟩, hx2⟩)
  cases t2 with
  | false =>
    (repeat (first | (refine OpsW.step rfl ?_; simp [opV]; done) | (refine OpsW.step rfl ?_; simp [opV]) | (refine OpsW.step ?_ ?_; (focus (simp [wantedA]; done)); simp [opV]) | (refine OpsW.un ?_ ?_; (focus (simp [wantedA]; done)))))
    (refine OpsW.nil ?_; try simp only [andThen, endBlock])
    (refine W.cond true ?_ ?_; (focus (simp; done)); simp only [if_true])
    ((try simp only [andThen, endBlock, if_true]); repeat (first | with_reducible refine W.seq ?_ | with_reducible refine W.block ?_ | (refine W.region (by rfl) ?_; (repeat (first | (refine OpsW.step rfl ?_; simp [opV]; done) | (refine OpsW.step rfl ?_; simp [opV]) | (refine OpsW.step ?_ ?_; (focus (simp [wantedA]; done)); simp [opV]) | (refine OpsW.un ?_ ?_; (focus (simp [wantedA]; done))))); (refine OpsW.nil ?_; try simp only [andThen, endBlock]))))
    (refine W.ret ?_; try simp only [andThen, endBlock])
    refine ⟨.inr rfl, [.nilslice, .nilslice, IV 1], by simp [Tryz.f8, resultsA, resultA], ?_⟩
    exact ⟨bad _ E (hx.trans (hx1.trans hx2)) fun hS => Bool.noConfusion (ht2.2 hS.2.1), hx.trans (hx1.trans hx2)⟩
  | true =>
  have hb2 := hb1.ext hx2
  (repeat (first | (refine OpsW.step rfl ?_; simp [opV, box_whole hb2.get Tryz.sh24, a3]; done) | (refine OpsW.step rfl ?_; simp [opV, box_whole hb2.get Tryz.sh24, a3]) | (refine OpsW.step ?_ ?_; (focus (simp [wantedA, box_whole hb2.get Tryz.sh24, a3]; done)); simp [opV, box_whole hb2.get Tryz.sh24, a3]) | (refine OpsW.un ?_ ?_; (focus (simp [wantedA, box_whole hb2.get Tryz.sh24, a3]; done)))))
  (refine FnW.mono (sets_spec A2 p nx cs kv ks kvs ((hf.ext hx1).ext hx2) ((hk1.ext hx1).ext hx2)) ?_; rintro _ A3 ⟨⟨t3, rfl, ht3⟩, hx3⟩)
  cases t3 with
  | false =>
    (repeat (first | (refine OpsW.step rfl ?_; simp [opV]; done) | (refine OpsW.step rfl ?_; simp [opV]) | (refine OpsW.step ?_ ?_; (focus (simp [wantedA]; done)); simp [opV]) | (refine OpsW.un ?_ ?_; (focus (simp [wantedA]; done)))))
    (refine OpsW.nil ?_; try simp only [andThen, endBlock])
    (refine W.cond true ?_ ?_; (focus (simp; done)); simp only [if_true])
    ((try simp only [andThen, endBlock, if_true]); repeat (first | with_reducible refine W.seq ?_ | with_reducible refine W.block ?_ | (refine W.region (by rfl) ?_; (repeat (first | (refine OpsW.step rfl ?_; simp [opV]; done) | (refine OpsW.step rfl ?_; simp [opV]) | (refine OpsW.step ?_ ?_; (focus (simp [wantedA]; done)); simp [opV]) | (refine OpsW.un ?_ ?_; (focus (simp [wantedA]; done))))); (refine OpsW.nil ?_; try simp only [andThen, endBlock]))))
    (refine W.ret ?_; try simp only [andThen, endBlock])
    refine ⟨.inr rfl, [.nilslice, .nilslice, IV 1], by simp [Tryz.f8, resultsA, resultA], ?_⟩
    exact ⟨bad _ E (hx.trans (hx1.trans (hx2.trans hx3))) fun hS => Bool.noConfusion (ht3.2 hS.2.2), hx.trans (hx1.trans (hx2.trans hx3))⟩
  | true =>
  have hx13 := hx1.trans (hx2.trans hx3)
  have hb3 := hb.ext hx13
  have hf3 := hf.ext hx13
  have hg3 := hg1.ext hx13
  have hk3 := hk1.ext hx13
  have hval := ht1.1 rfl
  have hsg := ht2.1 rfl
  have hsk := ht3.1 rfl
  have hx03 := hx.trans hx13
  clear hx1 hx2 hx13 hb1 hb2 ht1 ht2 ht3 bad hf hg1 hk1 hb
  (repeat (first | (refine OpsW.step rfl ?_; simp [opV]; done) | (refine OpsW.step rfl ?_; simp [opV]) | (refine OpsW.step ?_ ?_; (focus (simp [wantedA]; done)); simp [opV]) | (refine OpsW.un ?_ ?_; (focus (simp [wantedA]; done)))))
  (refine OpsW.nil ?_; try simp only [andThen, endBlock])
  (refine W.cond false ?_ ?_; (focus (simp; done)); simp only [Bool.false_eq_true, if_false])
  (refine W.skip ?_; try simp only [andThen, endBlock])
  ((try simp only [andThen, endBlock, if_true]); repeat (first | with_reducible refine W.seq ?_ | with_reducible refine W.block ?_ | (refine W.region (by rfl) ?_; (repeat (first | (refine OpsW.step rfl ?_; simp [opV, box_load hb3.get Tryz.sh22, Fl.len hf3 (P := Tryz.prog) Tryz.underlying22]; done) | (refine OpsW.step rfl ?_; simp [opV, box_load hb3.get Tryz.sh22, Fl.len hf3 (P := Tryz.prog) Tryz.underlying22]) | (refine OpsW.step ?_ ?_; (focus (simp [wantedA, box_load hb3.get Tryz.sh22, Fl.len hf3 (P := Tryz.prog) Tryz.underlying22]; done)); simp [opV, box_load hb3.get Tryz.sh22, Fl.len hf3 (P := Tryz.prog) Tryz.underlying22]) | (refine OpsW.un ?_ ?_; (focus (simp [wantedA, box_load hb3.get Tryz.sh22, Fl.len hf3 (P := Tryz.prog) Tryz.underlying22]; done))))); (refine OpsW.nil ?_; try simp only [andThen, endBlock]))))
  have hmk : mkV Tryz.prog 25 (.int .i64 (nx.length : Int)) (.int .i64 (nx.length : Int)) = some (.slc nx.length nx.length 1, .cells (List.replicate nx.length [.nilslice]).flatten) := mkV_of Tryz.underlying25 Tryz.zc36 Tryz.sz36 rfl Tryz.ob36 (by have := hval.2.1; omega)
  (refine W.drawnS mixedP self0_ok [(0, 0), (1, 0), (2, 0), (3, 0), (4, 0), (5, 0)] (by rfl) (by kernel_rfl) ?_; (repeat (first | (refine RSW.step rfl rfl ?_; simp [stepV, cls, allocL_mk, hmk]) | (refine RSW.step rfl ?_ ?_; (focus (simp [wantedA, allocL_mk, hmk]; done)); simp [stepV, cls, allocL_mk, hmk]) | (refine RSW.un rfl ?_ ?_ ?_; (focus (simp [wantedA, allocL_mk, hmk]; done)); (focus (simp [cls]; done))))); refine RSW.nil ?_; try simp only [andThen, endBlock])
  ((try simp only [andThen, endBlock, if_true]); repeat (first | with_reducible refine W.seq ?_ | with_reducible refine W.block ?_ | (refine W.region (by rfl) ?_; (repeat (first | (refine OpsW.step rfl ?_; simp [opV]; done) | (refine OpsW.step rfl ?_; simp [opV]) | (refine OpsW.step ?_ ?_; (focus (simp [wantedA]; done)); simp [opV]) | (refine OpsW.un ?_ ?_; (focus (simp [wantedA]; done))))); (refine OpsW.nil ?_; try simp only [andThen, endBlock]))))
  obtain ⟨c, hc⟩ : ∃ c : RC, c = ⟨A3, A.next, A3.next, A3.next + 1, p, gv, kv, cs, gvs, kvs, nx, gs, ks, fwd⟩ := ⟨_, rfl⟩
  have hok : c.Ok := by subst hc; exact ⟨hb3, hf3, hg3, hk3, hval, hsg, hsk, Nat.le_refl _, Nat.le_succ _, by simp⟩
  refine W.mono (Q := OutOut c) ?_ ?_
  · refine W.loop ?_
    refine LW.induct (OutInv c) ?_ _ _ _ ⟨fun _ => 0, fun _ => 0, true, _, _, ⟨by simp [a1, hc], by simp [a2, hc], by simp [a3, hc], by simp [hc], by simp [hc], by simp [hc], by simp [hc]; rfl, by simp, by rw [hc]; exact ((Ext.refl A3).push _).push _, ArrV.zero (by subst hc; simp [AH.get_push]) (by subst hc; exact Nat.lt_succ_of_lt (Nat.lt_succ_self _)) (by subst hc; exact hok.pos) (by subst hc; exact Nat.succ_pos _), ArrV.zero (by subst hc; exact (get_box (A := A3.push _) _).trans (by simp)) (by subst hc; exact Nat.lt_succ_self _) (by subst hc; exact hok.pos) (by subst hc; exact Nat.succ_pos _)⟩, by cases c.fwd <;> exact GoodF.zero _ _ _ _, rfl, fun h => nomatch h⟩
    clear hc hmk hb3 hf3 hg3 hk3 hval hsg hsk hx03
    rintro k e A1 ⟨I, O, more, ci, co, st, good, rfl, hleast⟩
    ((try simp only [andThen, endBlock, if_true]); repeat (first | with_reducible refine W.seq ?_ | with_reducible refine W.block ?_ | (refine W.region (by rfl) ?_; (repeat (first | (refine OpsW.step rfl ?_; simp [opV, st.e14]; done) | (refine OpsW.step rfl ?_; simp [opV, st.e14]) | (refine OpsW.step ?_ ?_; (focus (simp [wantedA, st.e14]; done)); simp [opV, st.e14]) | (refine OpsW.un ?_ ?_; (focus (simp [wantedA, st.e14]; done))))); (refine OpsW.nil ?_; try simp only [andThen, endBlock]))))
    cases more with
    | false =>
      (refine W.cond false ?_ ?_; (focus (simp; done)); simp only [Bool.false_eq_true, if_false])
      (refine W.exit ?_; try simp only [andThen, endBlock, if_true])
      exact ⟨by simp, I, O, ci, co, st.to (by simp) (by simp [st.e14]) st.ext st.ai st.ao, hleast rfl⟩
    | true =>
    (refine W.cond true ?_ ?_; (focus (simp; done)); simp only [if_true])
    (refine W.skip ?_; try simp only [andThen, endBlock])
    ((try simp only [andThen, endBlock, if_true]); repeat (first | with_reducible refine W.seq ?_ | with_reducible refine W.block ?_ | (refine W.region (by rfl) ?_; (repeat (first | (refine OpsW.step rfl ?_; simp [opV]; done) | (refine OpsW.step rfl ?_; simp [opV]) | (refine OpsW.step ?_ ?_; (focus (simp [wantedA]; done)); simp [opV]) | (refine OpsW.un ?_ ?_; (focus (simp [wantedA]; done))))); (refine OpsW.nil ?_; try simp only [andThen, endBlock]))))
    clear hleast
    obtain ⟨X0, hX0⟩ : ∃ X0, X0 = sel c.fwd I O := ⟨_, rfl⟩
    obtain ⟨Y0, hY0⟩ : ∃ Y0, Y0 = sel c.fwd O I := ⟨_, rfl⟩
    refine W.mono (Q := R1out c X0 Y0) ?_ ?_
    · refine W.loop ?_
      refine LW.induct (R1 c X0 Y0) ?_ _ _ _ ⟨0, I, O, false, ci, co, rfl, Nat.zero_le _, st.to (by simp) (by simp) st.ext st.ai st.ao, by simp, by subst hX0; subst hY0; exact Rnd.start good, by simp⟩
      rintro k e A2 ⟨a, I1, O1, more1, ci1, co1, rfl, ha, s, e15, rn, hp⟩
      ((try simp only [andThen, endBlock, if_true]); repeat (first | with_reducible refine W.seq ?_ | with_reducible refine W.block ?_ | (refine W.region (by rfl) ?_; (repeat (first | (refine OpsW.step rfl ?_; simp [opV, e15, s.e11]; done) | (refine OpsW.step rfl ?_; simp [opV, e15, s.e11]) | (refine OpsW.step ?_ ?_; (focus (simp [wantedA, e15, s.e11]; done)); simp [opV, e15, s.e11]) | (refine OpsW.un ?_ ?_; (focus (simp [wantedA, e15, s.e11]; done))))); (refine OpsW.nil ?_; try simp only [andThen, endBlock]))))
      by_cases hlt : a < c.nx.length
      rotate_left
      · (refine W.cond false ?_ ?_; (focus (simp [hlt]; done)); simp only [Bool.false_eq_true, if_false])
        (refine W.exit ?_; try simp only [andThen, endBlock, if_true])
        exact ⟨by simp, I1, O1, more1, ci1, co1, s.to (by simp) (by simp [s.e14]) s.ext s.ai s.ao, rn, fun hm j hj => hp hm j (by omega)⟩
      · (refine W.cond true ?_ ?_; (focus (simp [hlt]; done)); simp only [if_true])
        (refine W.skip ?_; try simp only [andThen, endBlock])
        have gset := GK_set (hok.gl.ext s.ext) hok.sg hlt
        have kset := GK_set (hok.kl.ext s.ext) hok.sk hlt
        have hlg : a < c.gs.length := by rw [hok.sg.1]; exact hlt
        have hlk : a < c.ks.length := by rw [hok.sk.1]; exact hlt
        have hg := hok.gl.ext s.ext
        have hk := hok.kl.ext s.ext
        cases hfw : c.fwd with
        | true =>
          have e1 : e.get 1 = .bool true := by rw [s.e1, hfw]
          have rn' : Rnd c.nx.length (Edge true c.nx) (GK c.gs) (GK c.ks) X0 Y0 I1 O1 more1 := by have := rn; rw [RC.Rn, hfw] at this; exact this
          obtain ⟨u, A4, hcall, g1, g2, g3⟩ := through_spec A2 (vx ci1 a) (vx c.gvs a) (vx c.kvs a) _ _ _ (s.ai.el a hlt) gset kset
          have hpu : pb u ≠ c.bi ∧ pb u ≠ c.bo := by
            rcases g3 with rfl | g3
            · exact hok.apart (hok.gl.el a hlg).1.place
            · have := s.ai.lt; have := s.ao.lt; omega
          have ai4 := s.ai.ext g2
          have ao4 := s.ao.ext g2
          have hp' := rn'.pass (fun j hj => (GK_set hok.gl hok.sg hj).2) hlt
          ((try simp only [andThen, endBlock, if_true]); repeat (first | with_reducible refine W.seq ?_ | with_reducible refine W.block ?_ | (refine W.region (by rfl) ?_; (repeat (first | (refine OpsW.step rfl ?_; simp [opV, s.e12, e15, e1, s.ai.idx Tryz.underlying25 Tryz.sz36 hlt, s.ai.load Tryz.sh36 hlt]; done) | (refine OpsW.step rfl ?_; simp [opV, s.e12, e15, e1, s.ai.idx Tryz.underlying25 Tryz.sz36 hlt, s.ai.load Tryz.sh36 hlt]) | (refine OpsW.step ?_ ?_; (focus (simp [wantedA, s.e12, e15, e1, s.ai.idx Tryz.underlying25 Tryz.sz36 hlt, s.ai.load Tryz.sh36 hlt]; done)); simp [opV, s.e12, e15, e1, s.ai.idx Tryz.underlying25 Tryz.sz36 hlt, s.ai.load Tryz.sh36 hlt]) | (refine OpsW.un ?_ ?_; (focus (simp [wantedA, s.e12, e15, e1, s.ai.idx Tryz.underlying25 Tryz.sz36 hlt, s.ai.load Tryz.sh36 hlt]; done))))); (refine OpsW.nil ?_; try simp only [andThen, endBlock]))))
          (refine W.cond false ?_ ?_; (focus (simp; done)); simp only [Bool.false_eq_true, if_false])
          (refine W.skip ?_; try simp only [andThen, endBlock])
          ((try simp only [andThen, endBlock, if_true]); repeat (first | with_reducible refine W.seq ?_ | with_reducible refine W.block ?_ | (refine W.region (by rfl) ?_; (repeat (first | (refine OpsW.step rfl ?_; simp [opV]; done) | (refine OpsW.step rfl ?_; simp [opV]) | (refine OpsW.step ?_ ?_; (focus (simp [wantedA]; done)); simp [opV]) | (refine OpsW.un ?_ ?_; (focus (simp [wantedA]; done))))); (refine OpsW.nil ?_; try simp only [andThen, endBlock]))))
          (refine W.drawnS mixedP (selfC_ok hcall self0_ok) [(0, 0), (1, 0), (2, 0), (3, 0), (4, 0), (5, 0), (6, 0), (7, 0), (8, 0), (9, 0), (10, 0)] (by rfl) (by kernel_rfl) ?_; (repeat (first | (refine RSW.step rfl rfl ?_; simp [stepV, cls, s.e2, s.e3, e15, LL.idx hg Tryz.underlying25 Tryz.sz36 hlg, LL.load hg Tryz.sh36 hlg, LL.idx hk Tryz.underlying25 Tryz.sz36 hlk, LL.load hk Tryz.sh36 hlk, opA_callf, selfC_call]) | (refine RSW.step rfl ?_ ?_; (focus (simp [wantedA, s.e2, s.e3, e15, LL.idx hg Tryz.underlying25 Tryz.sz36 hlg, LL.load hg Tryz.sh36 hlg, LL.idx hk Tryz.underlying25 Tryz.sz36 hlk, LL.load hk Tryz.sh36 hlk, opA_callf, selfC_call]; done)); simp [stepV, cls, s.e2, s.e3, e15, LL.idx hg Tryz.underlying25 Tryz.sz36 hlg, LL.load hg Tryz.sh36 hlg, LL.idx hk Tryz.underlying25 Tryz.sz36 hlk, LL.load hk Tryz.sh36 hlk, opA_callf, selfC_call]) | (refine RSW.un rfl ?_ ?_ ?_; (focus (simp [wantedA, s.e2, s.e3, e15, LL.idx hg Tryz.underlying25 Tryz.sz36 hlg, LL.load hg Tryz.sh36 hlg, LL.idx hk Tryz.underlying25 Tryz.sz36 hlk, LL.load hk Tryz.sh36 hlk, opA_callf, selfC_call]; done)); (focus (simp [cls]; done))))); refine RSW.nil ?_; try simp only [andThen, endBlock])
          ((try simp only [andThen, endBlock, if_true]); repeat (first | with_reducible refine W.seq ?_ | with_reducible refine W.block ?_ | (refine W.region (by rfl) ?_; (repeat (first | (refine OpsW.step rfl ?_; simp [opV, e1]; done) | (refine OpsW.step rfl ?_; simp [opV, e1]) | (refine OpsW.step ?_ ?_; (focus (simp [wantedA, e1]; done)); simp [opV, e1]) | (refine OpsW.un ?_ ?_; (focus (simp [wantedA, e1]; done))))); (refine OpsW.nil ?_; try simp only [andThen, endBlock]))))
          (refine W.cond true ?_ ?_; (focus (simp; done)); simp only [if_true])
          cases more1 with
          | true =>
            ((try simp only [andThen, endBlock, if_true]); repeat (first | with_reducible refine W.seq ?_ | with_reducible refine W.block ?_ | (refine W.region (by rfl) ?_; (repeat (first | (refine OpsW.step rfl ?_; simp [opV, s.e14, s.e13, e15, e1, ao4.idx Tryz.underlying25 Tryz.sz36 hlt, ao4.load Tryz.sh36 hlt, ao4.store Tryz.sz36 g1.cells hlt, IntSl.len g1.1 (P := Tryz.prog) Tryz.underlying36, IntSl.len (ao4.el a hlt).1 (P := Tryz.prog) Tryz.underlying36]; done) | (refine OpsW.step rfl ?_; simp [opV, s.e14, s.e13, e15, e1, ao4.idx Tryz.underlying25 Tryz.sz36 hlt, ao4.load Tryz.sh36 hlt, ao4.store Tryz.sz36 g1.cells hlt, IntSl.len g1.1 (P := Tryz.prog) Tryz.underlying36, IntSl.len (ao4.el a hlt).1 (P := Tryz.prog) Tryz.underlying36]) | (refine OpsW.step ?_ ?_; (focus (simp [wantedA, s.e14, s.e13, e15, e1, ao4.idx Tryz.underlying25 Tryz.sz36 hlt, ao4.load Tryz.sh36 hlt, ao4.store Tryz.sz36 g1.cells hlt, IntSl.len g1.1 (P := Tryz.prog) Tryz.underlying36, IntSl.len (ao4.el a hlt).1 (P := Tryz.prog) Tryz.underlying36]; done)); simp [opV, s.e14, s.e13, e15, e1, ao4.idx Tryz.underlying25 Tryz.sz36 hlt, ao4.load Tryz.sh36 hlt, ao4.store Tryz.sz36 g1.cells hlt, IntSl.len g1.1 (P := Tryz.prog) Tryz.underlying36, IntSl.len (ao4.el a hlt).1 (P := Tryz.prog) Tryz.underlying36]) | (refine OpsW.un ?_ ?_; (focus (simp [wantedA, s.e14, s.e13, e15, e1, ao4.idx Tryz.underlying25 Tryz.sz36 hlt, ao4.load Tryz.sh36 hlt, ao4.store Tryz.sz36 g1.cells hlt, IntSl.len g1.1 (P := Tryz.prog) Tryz.underlying36, IntSl.len (ao4.el a hlt).1 (P := Tryz.prog) Tryz.underlying36]; done))))); (refine OpsW.nil ?_; try simp only [andThen, endBlock]))))
            refine ⟨_, ?_, a + 1, I1, (updF O1 a (thr (I1 a) (GK c.gs a) (GK c.ks a))), (true || decide (¬ ((lst (thr (I1 a) (GK c.gs a) (GK c.ks a))).length : Int) = (lst (O1 a)).length)), ci1, (co1.set a u), rfl, by omega, s.to (by simp) ?_ ((s.ext.trans g2).put (by exact hok.hbo) _) (ai4.other hok.ne (.inr rfl) _) (ao4.put g1 hpu.1 hpu.2 (.inr rfl) hlt), by simp [wrap_succ hlt hok.fl.le], ?_, ?_⟩
            · omega
            · simp
            · rw [RC.Rn, hfw]; exact hp'.1
            · intro hm; simp at hm
          | false =>
            ((try simp only [andThen, endBlock, if_true]); repeat (first | with_reducible refine W.seq ?_ | with_reducible refine W.block ?_ | (refine W.region (by rfl) ?_; (repeat (first | (refine OpsW.step rfl ?_; simp [opV, s.e14, s.e13, e15, e1, ao4.idx Tryz.underlying25 Tryz.sz36 hlt, ao4.load Tryz.sh36 hlt, ao4.store Tryz.sz36 g1.cells hlt, IntSl.len g1.1 (P := Tryz.prog) Tryz.underlying36, IntSl.len (ao4.el a hlt).1 (P := Tryz.prog) Tryz.underlying36]; done) | (refine OpsW.step rfl ?_; simp [opV, s.e14, s.e13, e15, e1, ao4.idx Tryz.underlying25 Tryz.sz36 hlt, ao4.load Tryz.sh36 hlt, ao4.store Tryz.sz36 g1.cells hlt, IntSl.len g1.1 (P := Tryz.prog) Tryz.underlying36, IntSl.len (ao4.el a hlt).1 (P := Tryz.prog) Tryz.underlying36]) | (refine OpsW.step ?_ ?_; (focus (simp [wantedA, s.e14, s.e13, e15, e1, ao4.idx Tryz.underlying25 Tryz.sz36 hlt, ao4.load Tryz.sh36 hlt, ao4.store Tryz.sz36 g1.cells hlt, IntSl.len g1.1 (P := Tryz.prog) Tryz.underlying36, IntSl.len (ao4.el a hlt).1 (P := Tryz.prog) Tryz.underlying36]; done)); simp [opV, s.e14, s.e13, e15, e1, ao4.idx Tryz.underlying25 Tryz.sz36 hlt, ao4.load Tryz.sh36 hlt, ao4.store Tryz.sz36 g1.cells hlt, IntSl.len g1.1 (P := Tryz.prog) Tryz.underlying36, IntSl.len (ao4.el a hlt).1 (P := Tryz.prog) Tryz.underlying36]) | (refine OpsW.un ?_ ?_; (focus (simp [wantedA, s.e14, s.e13, e15, e1, ao4.idx Tryz.underlying25 Tryz.sz36 hlt, ao4.load Tryz.sh36 hlt, ao4.store Tryz.sz36 g1.cells hlt, IntSl.len g1.1 (P := Tryz.prog) Tryz.underlying36, IntSl.len (ao4.el a hlt).1 (P := Tryz.prog) Tryz.underlying36]; done))))); (refine OpsW.nil ?_; try simp only [andThen, endBlock]))))
            refine ⟨_, ?_, a + 1, I1, (updF O1 a (thr (I1 a) (GK c.gs a) (GK c.ks a))), (false || decide (¬ ((lst (thr (I1 a) (GK c.gs a) (GK c.ks a))).length : Int) = (lst (O1 a)).length)), ci1, (co1.set a u), rfl, by omega, s.to (by simp) ?_ ((s.ext.trans g2).put (by exact hok.hbo) _) (ai4.other hok.ne (.inr rfl) _) (ao4.put g1 hpu.1 hpu.2 (.inr rfl) hlt), by simp [wrap_succ hlt hok.fl.le], ?_, ?_⟩
            · omega
            · simp
            · rw [RC.Rn, hfw]; exact hp'.1
            · intro hm j hj
              by_cases hja : j = a
              · subst hja; exact hp'.2 ⟨rfl, by simpa using hm⟩
              · exact hp rfl j (by omega)
        | false =>
          have e1 : e.get 1 = .bool false := by rw [s.e1, hfw]
          have rn' : Rnd c.nx.length (Edge false c.nx) (GK c.gs) (GK c.ks) X0 Y0 O1 I1 more1 := by have := rn; rw [RC.Rn, hfw] at this; exact this
          obtain ⟨u, A4, hcall, g1, g2, g3⟩ := through_spec A2 (vx co1 a) (vx c.gvs a) (vx c.kvs a) _ _ _ (s.ao.el a hlt) gset kset
          have hpu : pb u ≠ c.bi ∧ pb u ≠ c.bo := by
            rcases g3 with rfl | g3
            · exact hok.apart (hok.gl.el a hlg).1.place
            · have := s.ai.lt; have := s.ao.lt; omega
          have ai4 := s.ai.ext g2
          have ao4 := s.ao.ext g2
          have hp' := rn'.pass (fun j hj => (GK_set hok.gl hok.sg hj).2) hlt
          ((try simp only [andThen, endBlock, if_true]); repeat (first | with_reducible refine W.seq ?_ | with_reducible refine W.block ?_ | (refine W.region (by rfl) ?_; (repeat (first | (refine OpsW.step rfl ?_; simp [opV, s.e12, e15, e1, s.ai.idx Tryz.underlying25 Tryz.sz36 hlt, s.ai.load Tryz.sh36 hlt]; done) | (refine OpsW.step rfl ?_; simp [opV, s.e12, e15, e1, s.ai.idx Tryz.underlying25 Tryz.sz36 hlt, s.ai.load Tryz.sh36 hlt]) | (refine OpsW.step ?_ ?_; (focus (simp [wantedA, s.e12, e15, e1, s.ai.idx Tryz.underlying25 Tryz.sz36 hlt, s.ai.load Tryz.sh36 hlt]; done)); simp [opV, s.e12, e15, e1, s.ai.idx Tryz.underlying25 Tryz.sz36 hlt, s.ai.load Tryz.sh36 hlt]) | (refine OpsW.un ?_ ?_; (focus (simp [wantedA, s.e12, e15, e1, s.ai.idx Tryz.underlying25 Tryz.sz36 hlt, s.ai.load Tryz.sh36 hlt]; done))))); (refine OpsW.nil ?_; try simp only [andThen, endBlock]))))
          (refine W.cond true ?_ ?_; (focus (simp; done)); simp only [if_true])
          ((try simp only [andThen, endBlock, if_true]); repeat (first | with_reducible refine W.seq ?_ | with_reducible refine W.block ?_ | (refine W.region (by rfl) ?_; (repeat (first | (refine OpsW.step rfl ?_; simp [opV, s.e13, e15, s.ao.idx Tryz.underlying25 Tryz.sz36 hlt, s.ao.load Tryz.sh36 hlt]; done) | (refine OpsW.step rfl ?_; simp [opV, s.e13, e15, s.ao.idx Tryz.underlying25 Tryz.sz36 hlt, s.ao.load Tryz.sh36 hlt]) | (refine OpsW.step ?_ ?_; (focus (simp [wantedA, s.e13, e15, s.ao.idx Tryz.underlying25 Tryz.sz36 hlt, s.ao.load Tryz.sh36 hlt]; done)); simp [opV, s.e13, e15, s.ao.idx Tryz.underlying25 Tryz.sz36 hlt, s.ao.load Tryz.sh36 hlt]) | (refine OpsW.un ?_ ?_; (focus (simp [wantedA, s.e13, e15, s.ao.idx Tryz.underlying25 Tryz.sz36 hlt, s.ao.load Tryz.sh36 hlt]; done))))); (refine OpsW.nil ?_; try simp only [andThen, endBlock]))))
          ((try simp only [andThen, endBlock, if_true]); repeat (first | with_reducible refine W.seq ?_ | with_reducible refine W.block ?_ | (refine W.region (by rfl) ?_; (repeat (first | (refine OpsW.step rfl ?_; simp [opV]; done) | (refine OpsW.step rfl ?_; simp [opV]) | (refine OpsW.step ?_ ?_; (focus (simp [wantedA]; done)); simp [opV]) | (refine OpsW.un ?_ ?_; (focus (simp [wantedA]; done))))); (refine OpsW.nil ?_; try simp only [andThen, endBlock]))))
          (refine W.drawnS mixedP (selfC_ok hcall self0_ok) [(0, 0), (1, 0), (2, 0), (3, 0), (4, 0), (5, 0), (6, 0), (7, 0), (8, 0), (9, 0), (10, 0)] (by rfl) (by kernel_rfl) ?_; (repeat (first | (refine RSW.step rfl rfl ?_; simp [stepV, cls, s.e2, s.e3, e15, LL.idx hg Tryz.underlying25 Tryz.sz36 hlg, LL.load hg Tryz.sh36 hlg, LL.idx hk Tryz.underlying25 Tryz.sz36 hlk, LL.load hk Tryz.sh36 hlk, opA_callf, selfC_call]) | (refine RSW.step rfl ?_ ?_; (focus (simp [wantedA, s.e2, s.e3, e15, LL.idx hg Tryz.underlying25 Tryz.sz36 hlg, LL.load hg Tryz.sh36 hlg, LL.idx hk Tryz.underlying25 Tryz.sz36 hlk, LL.load hk Tryz.sh36 hlk, opA_callf, selfC_call]; done)); simp [stepV, cls, s.e2, s.e3, e15, LL.idx hg Tryz.underlying25 Tryz.sz36 hlg, LL.load hg Tryz.sh36 hlg, LL.idx hk Tryz.underlying25 Tryz.sz36 hlk, LL.load hk Tryz.sh36 hlk, opA_callf, selfC_call]) | (refine RSW.un rfl ?_ ?_ ?_; (focus (simp [wantedA, s.e2, s.e3, e15, LL.idx hg Tryz.underlying25 Tryz.sz36 hlg, LL.load hg Tryz.sh36 hlg, LL.idx hk Tryz.underlying25 Tryz.sz36 hlk, LL.load hk Tryz.sh36 hlk, opA_callf, selfC_call]; done)); (focus (simp [cls]; done))))); refine RSW.nil ?_; try simp only [andThen, endBlock])
          ((try simp only [andThen, endBlock, if_true]); repeat (first | with_reducible refine W.seq ?_ | with_reducible refine W.block ?_ | (refine W.region (by rfl) ?_; (repeat (first | (refine OpsW.step rfl ?_; simp [opV, e1]; done) | (refine OpsW.step rfl ?_; simp [opV, e1]) | (refine OpsW.step ?_ ?_; (focus (simp [wantedA, e1]; done)); simp [opV, e1]) | (refine OpsW.un ?_ ?_; (focus (simp [wantedA, e1]; done))))); (refine OpsW.nil ?_; try simp only [andThen, endBlock]))))
          (refine W.cond false ?_ ?_; (focus (simp; done)); simp only [Bool.false_eq_true, if_false])
          cases more1 with
          | true =>
            ((try simp only [andThen, endBlock, if_true]); repeat (first | with_reducible refine W.seq ?_ | with_reducible refine W.block ?_ | (refine W.region (by rfl) ?_; (repeat (first | (refine OpsW.step rfl ?_; simp [opV, s.e14, s.e12, e15, e1, ai4.idx Tryz.underlying25 Tryz.sz36 hlt, ai4.load Tryz.sh36 hlt, ai4.store Tryz.sz36 g1.cells hlt, IntSl.len g1.1 (P := Tryz.prog) Tryz.underlying36, IntSl.len (ai4.el a hlt).1 (P := Tryz.prog) Tryz.underlying36]; done) | (refine OpsW.step rfl ?_; simp [opV, s.e14, s.e12, e15, e1, ai4.idx Tryz.underlying25 Tryz.sz36 hlt, ai4.load Tryz.sh36 hlt, ai4.store Tryz.sz36 g1.cells hlt, IntSl.len g1.1 (P := Tryz.prog) Tryz.underlying36, IntSl.len (ai4.el a hlt).1 (P := Tryz.prog) Tryz.underlying36]) | (refine OpsW.step ?_ ?_; (focus (simp [wantedA, s.e14, s.e12, e15, e1, ai4.idx Tryz.underlying25 Tryz.sz36 hlt, ai4.load Tryz.sh36 hlt, ai4.store Tryz.sz36 g1.cells hlt, IntSl.len g1.1 (P := Tryz.prog) Tryz.underlying36, IntSl.len (ai4.el a hlt).1 (P := Tryz.prog) Tryz.underlying36]; done)); simp [opV, s.e14, s.e12, e15, e1, ai4.idx Tryz.underlying25 Tryz.sz36 hlt, ai4.load Tryz.sh36 hlt, ai4.store Tryz.sz36 g1.cells hlt, IntSl.len g1.1 (P := Tryz.prog) Tryz.underlying36, IntSl.len (ai4.el a hlt).1 (P := Tryz.prog) Tryz.underlying36]) | (refine OpsW.un ?_ ?_; (focus (simp [wantedA, s.e14, s.e12, e15, e1, ai4.idx Tryz.underlying25 Tryz.sz36 hlt, ai4.load Tryz.sh36 hlt, ai4.store Tryz.sz36 g1.cells hlt, IntSl.len g1.1 (P := Tryz.prog) Tryz.underlying36, IntSl.len (ai4.el a hlt).1 (P := Tryz.prog) Tryz.underlying36]; done))))); (refine OpsW.nil ?_; try simp only [andThen, endBlock]))))
            refine ⟨_, ?_, a + 1, (updF I1 a (thr (O1 a) (GK c.gs a) (GK c.ks a))), O1, (true || decide (¬ ((lst (thr (O1 a) (GK c.gs a) (GK c.ks a))).length : Int) = (lst (I1 a)).length)), (ci1.set a u), co1, rfl, by omega, s.to (by simp) ?_ ((s.ext.trans g2).put (by exact hok.hbi) _) (ai4.put g1 hpu.1 hpu.2 (.inl rfl) hlt) (ao4.other (fun e => hok.ne e.symm) (.inl rfl) _), by simp [wrap_succ hlt hok.fl.le], ?_, ?_⟩
            · omega
            · simp
            · rw [RC.Rn, hfw]; exact hp'.1
            · intro hm; simp at hm
          | false =>
            ((try simp only [andThen, endBlock, if_true]); repeat (first | with_reducible refine W.seq ?_ | with_reducible refine W.block ?_ | (refine W.region (by rfl) ?_; (repeat (first | (refine OpsW.step rfl ?_; simp [opV, s.e14, s.e12, e15, e1, ai4.idx Tryz.underlying25 Tryz.sz36 hlt, ai4.load Tryz.sh36 hlt, ai4.store Tryz.sz36 g1.cells hlt, IntSl.len g1.1 (P := Tryz.prog) Tryz.underlying36, IntSl.len (ai4.el a hlt).1 (P := Tryz.prog) Tryz.underlying36]; done) | (refine OpsW.step rfl ?_; simp [opV, s.e14, s.e12, e15, e1, ai4.idx Tryz.underlying25 Tryz.sz36 hlt, ai4.load Tryz.sh36 hlt, ai4.store Tryz.sz36 g1.cells hlt, IntSl.len g1.1 (P := Tryz.prog) Tryz.underlying36, IntSl.len (ai4.el a hlt).1 (P := Tryz.prog) Tryz.underlying36]) | (refine OpsW.step ?_ ?_; (focus (simp [wantedA, s.e14, s.e12, e15, e1, ai4.idx Tryz.underlying25 Tryz.sz36 hlt, ai4.load Tryz.sh36 hlt, ai4.store Tryz.sz36 g1.cells hlt, IntSl.len g1.1 (P := Tryz.prog) Tryz.underlying36, IntSl.len (ai4.el a hlt).1 (P := Tryz.prog) Tryz.underlying36]; done)); simp [opV, s.e14, s.e12, e15, e1, ai4.idx Tryz.underlying25 Tryz.sz36 hlt, ai4.load Tryz.sh36 hlt, ai4.store Tryz.sz36 g1.cells hlt, IntSl.len g1.1 (P := Tryz.prog) Tryz.underlying36, IntSl.len (ai4.el a hlt).1 (P := Tryz.prog) Tryz.underlying36]) | (refine OpsW.un ?_ ?_; (focus (simp [wantedA, s.e14, s.e12, e15, e1, ai4.idx Tryz.underlying25 Tryz.sz36 hlt, ai4.load Tryz.sh36 hlt, ai4.store Tryz.sz36 g1.cells hlt, IntSl.len g1.1 (P := Tryz.prog) Tryz.underlying36, IntSl.len (ai4.el a hlt).1 (P := Tryz.prog) Tryz.underlying36]; done))))); (refine OpsW.nil ?_; try simp only [andThen, endBlock]))))
            refine ⟨_, ?_, a + 1, (updF I1 a (thr (O1 a) (GK c.gs a) (GK c.ks a))), O1, (false || decide (¬ ((lst (thr (O1 a) (GK c.gs a) (GK c.ks a))).length : Int) = (lst (I1 a)).length)), (ci1.set a u), co1, rfl, by omega, s.to (by simp) ?_ ((s.ext.trans g2).put (by exact hok.hbi) _) (ai4.put g1 hpu.1 hpu.2 (.inl rfl) hlt) (ao4.other (fun e => hok.ne e.symm) (.inl rfl) _), by simp [wrap_succ hlt hok.fl.le], ?_, ?_⟩
            · omega
            · simp
            · rw [RC.Rn, hfw]; exact hp'.1
            · intro hm j hj
              by_cases hja : j = a
              · subst hja; exact hp'.2 ⟨rfl, by simpa using hm⟩
              · exact hp rfl j (by omega)
    · rintro x e A2 ⟨rfl, I1, O1, more1, ci1, co1, s, rn, hp⟩
      ((try simp only [andThen, endBlock, if_true]); repeat (first | with_reducible refine W.seq ?_ | with_reducible refine W.block ?_ | (refine W.region (by rfl) ?_; (repeat (first | (refine OpsW.step rfl ?_; simp [opV]; done) | (refine OpsW.step rfl ?_; simp [opV]) | (refine OpsW.step ?_ ?_; (focus (simp [wantedA]; done)); simp [opV]) | (refine OpsW.un ?_ ?_; (focus (simp [wantedA]; done))))); (refine OpsW.nil ?_; try simp only [andThen, endBlock]))))
      refine W.mono (Q := R2out c X0 Y0) ?_ ?_
      · refine W.loop ?_
        refine LW.induct (R2 c X0 Y0) ?_ _ _ _ ⟨0, I1, O1, more1, ci1, co1, rfl, Nat.zero_le _, s.to (by simp) (by simp [s.e14]) s.ext s.ai s.ao, by simp, rn, fun hm => ⟨hp hm, by simp⟩⟩
        clear hp rn s
        rintro k e A2 ⟨a, I2, O2, more2, ci2, co2, rfl, ha, s, e18, rn, hp⟩
        ((try simp only [andThen, endBlock, if_true]); repeat (first | with_reducible refine W.seq ?_ | with_reducible refine W.block ?_ | (refine W.region (by rfl) ?_; (repeat (first | (refine OpsW.step rfl ?_; simp [opV, e18, s.e11]; done) | (refine OpsW.step rfl ?_; simp [opV, e18, s.e11]) | (refine OpsW.step ?_ ?_; (focus (simp [wantedA, e18, s.e11]; done)); simp [opV, e18, s.e11]) | (refine OpsW.un ?_ ?_; (focus (simp [wantedA, e18, s.e11]; done))))); (refine OpsW.nil ?_; try simp only [andThen, endBlock]))))
        by_cases hlt : a < c.nx.length
        rotate_left
        · (refine W.cond false ?_ ?_; (focus (simp [hlt]; done)); simp only [Bool.false_eq_true, if_false])
          (refine W.exit ?_; try simp only [andThen, endBlock, if_true])
          exact ⟨by simp, I2, O2, more2, ci2, co2, s.to (by simp) (by simp [s.e14]) s.ext s.ai s.ao, rn, fun hm => ⟨(hp hm).1, fun j hj => (hp hm).2 j (by omega)⟩⟩
        · (refine W.cond true ?_ ?_; (focus (simp [hlt]; done)); simp only [if_true])
          (refine W.skip ?_; try simp only [andThen, endBlock])
          ((try simp only [andThen, endBlock, if_true]); repeat (first | with_reducible refine W.seq ?_ | with_reducible refine W.block ?_ | (refine W.region (by rfl) ?_; (repeat (first | (refine OpsW.step rfl ?_; simp [opV]; done) | (refine OpsW.step rfl ?_; simp [opV]) | (refine OpsW.step ?_ ?_; (focus (simp [wantedA]; done)); simp [opV]) | (refine OpsW.un ?_ ?_; (focus (simp [wantedA]; done))))); (refine OpsW.nil ?_; try simp only [andThen, endBlock]))))
          refine W.mono (Q := R3out c X0 Y0 a) ?_ ?_
          · refine W.loop ?_
            refine LW.induct (R3 c X0 Y0 a) ?_ _ _ _ ⟨0, I2, O2, more2, ci2, co2, rfl, Nat.zero_le _, s.to (by simp) (by simp [s.e14]) s.ext s.ai s.ao, by simp [e18], by simp, rn, fun hm => ⟨(hp hm).1, (hp hm).2, by simp⟩⟩
            clear hp rn s e18
            rintro k e A2 ⟨i, I3, O3, more3, ci3, co3, rfl, hi, s, e18, e19, rn, hp⟩
            have hf := hok.fl.ext s.ext
            have hb := hok.box.ext s.ext
            have hn := hf.el a hlt
            ((try simp only [andThen, endBlock, if_true]); repeat (first | with_reducible refine W.seq ?_ | with_reducible refine W.block ?_ | (refine W.region (by rfl) ?_; (repeat (first | (refine OpsW.step rfl ?_; simp [opV, s.e4, e18, e19, box_load hb.get Tryz.sh22, Fl.len hf (P := Tryz.prog) Tryz.underlying22, Fl.idx hf Tryz.underlying22 Tryz.sz39 hlt, Fl.load hf Tryz.sh36 hlt, IntSl.len hn (P := Tryz.prog) Tryz.underlying36]; done) | (refine OpsW.step rfl ?_; simp [opV, s.e4, e18, e19, box_load hb.get Tryz.sh22, Fl.len hf (P := Tryz.prog) Tryz.underlying22, Fl.idx hf Tryz.underlying22 Tryz.sz39 hlt, Fl.load hf Tryz.sh36 hlt, IntSl.len hn (P := Tryz.prog) Tryz.underlying36]) | (refine OpsW.step ?_ ?_; (focus (simp [wantedA, s.e4, e18, e19, box_load hb.get Tryz.sh22, Fl.len hf (P := Tryz.prog) Tryz.underlying22, Fl.idx hf Tryz.underlying22 Tryz.sz39 hlt, Fl.load hf Tryz.sh36 hlt, IntSl.len hn (P := Tryz.prog) Tryz.underlying36]; done)); simp [opV, s.e4, e18, e19, box_load hb.get Tryz.sh22, Fl.len hf (P := Tryz.prog) Tryz.underlying22, Fl.idx hf Tryz.underlying22 Tryz.sz39 hlt, Fl.load hf Tryz.sh36 hlt, IntSl.len hn (P := Tryz.prog) Tryz.underlying36]) | (refine OpsW.un ?_ ?_; (focus (simp [wantedA, s.e4, e18, e19, box_load hb.get Tryz.sh22, Fl.len hf (P := Tryz.prog) Tryz.underlying22, Fl.idx hf Tryz.underlying22 Tryz.sz39 hlt, Fl.load hf Tryz.sh36 hlt, IntSl.len hn (P := Tryz.prog) Tryz.underlying36]; done))))); (refine OpsW.nil ?_; try simp only [andThen, endBlock]))))
            by_cases hit : i < (lx c.nx a).length
            rotate_left
            · (refine W.cond false ?_ ?_; (focus (simp [hit]; done)); simp only [Bool.false_eq_true, if_false])
              (refine W.exit ?_; try simp only [andThen, endBlock, if_true])
              refine ⟨by simp, I3, O3, more3, ci3, co3, s.to (by simp) (by simp [s.e14]) s.ext s.ai s.ao, by simp [e18], rn, fun hm => ⟨(hp hm).1, fun j hj x hx => ?_⟩⟩
              by_cases hja : j = a
              · subst hja
                exact (hp hm).2.2 x (by rw [List.take_of_length_le (by omega)]; exact hx)
              · exact (hp hm).2.1 j (by omega) x hx
            · (refine W.cond true ?_ ?_; (focus (simp [hit]; done)); simp only [if_true])
              (refine W.skip ?_; try simp only [andThen, endBlock])
              obtain ⟨b, hbx, hbl⟩ : ∃ b : Nat, ix (lx c.nx a) i = (b : Int) ∧ b < c.nx.length := by
                have := hok.val.2.2.2 a hlt _ (ix_mem hit)
                exact ⟨(ix (lx c.nx a) i).toNat, by omega, by omega⟩
              have hbm : (b : Int) ∈ lx c.nx a := by rw [← hbx]; exact ix_mem hit
              cases hfw : c.fwd with
              | true =>
                have e1 : e.get 1 = .bool true := by rw [s.e1, hfw]
                have rn' : Rnd c.nx.length (Edge true c.nx) (GK c.gs) (GK c.ks) X0 Y0 I3 O3 more3 := by have := rn; rw [RC.Rn, hfw] at this; exact this
                obtain ⟨u, A4, hcall, g1, g2, g3⟩ := union_spec A2 (vx ci3 b) (vx co3 a) _ _ (s.ai.el b hbl) (s.ao.el a hlt)
                have hpu : pb u ≠ c.bi ∧ pb u ≠ c.bo := by
                  rcases g3 with rfl | g3
                  · exact ⟨s.ai.ni b hbl, s.ai.no b hbl⟩
                  · have := s.ai.lt; have := s.ao.lt; omega
                have ai4 := s.ai.ext g2
                have ao4 := s.ao.ext g2
                have hp' := rn'.join (s := a) (d := b) hlt hbl (by exact hbm)
                ((try simp only [andThen, endBlock, if_true]); repeat (first | with_reducible refine W.seq ?_ | with_reducible refine W.block ?_ | (refine W.region (by rfl) ?_; (repeat (first | (refine OpsW.step rfl ?_; simp [opV, s.e4, e18, e19, box_load hb.get Tryz.sh22, Fl.len hf (P := Tryz.prog) Tryz.underlying22, Fl.idx hf Tryz.underlying22 Tryz.sz39 hlt, Fl.load hf Tryz.sh36 hlt, IntSl.idx hn Tryz.underlying36 Tryz.sz3 hit, IntSl.load hn Tryz.sh3 hit, hbx, e1]; done) | (refine OpsW.step rfl ?_; simp [opV, s.e4, e18, e19, box_load hb.get Tryz.sh22, Fl.len hf (P := Tryz.prog) Tryz.underlying22, Fl.idx hf Tryz.underlying22 Tryz.sz39 hlt, Fl.load hf Tryz.sh36 hlt, IntSl.idx hn Tryz.underlying36 Tryz.sz3 hit, IntSl.load hn Tryz.sh3 hit, hbx, e1]) | (refine OpsW.step ?_ ?_; (focus (simp [wantedA, s.e4, e18, e19, box_load hb.get Tryz.sh22, Fl.len hf (P := Tryz.prog) Tryz.underlying22, Fl.idx hf Tryz.underlying22 Tryz.sz39 hlt, Fl.load hf Tryz.sh36 hlt, IntSl.idx hn Tryz.underlying36 Tryz.sz3 hit, IntSl.load hn Tryz.sh3 hit, hbx, e1]; done)); simp [opV, s.e4, e18, e19, box_load hb.get Tryz.sh22, Fl.len hf (P := Tryz.prog) Tryz.underlying22, Fl.idx hf Tryz.underlying22 Tryz.sz39 hlt, Fl.load hf Tryz.sh36 hlt, IntSl.idx hn Tryz.underlying36 Tryz.sz3 hit, IntSl.load hn Tryz.sh3 hit, hbx, e1]) | (refine OpsW.un ?_ ?_; (focus (simp [wantedA, s.e4, e18, e19, box_load hb.get Tryz.sh22, Fl.len hf (P := Tryz.prog) Tryz.underlying22, Fl.idx hf Tryz.underlying22 Tryz.sz39 hlt, Fl.load hf Tryz.sh36 hlt, IntSl.idx hn Tryz.underlying36 Tryz.sz3 hit, IntSl.load hn Tryz.sh3 hit, hbx, e1]; done))))); (refine OpsW.nil ?_; try simp only [andThen, endBlock]))))
                (refine W.cond true ?_ ?_; (focus (simp; done)); simp only [if_true])
                ((try simp only [andThen, endBlock, if_true]); repeat (first | with_reducible refine W.seq ?_ | with_reducible refine W.block ?_ | (refine W.region (by rfl) ?_; (repeat (first | (refine OpsW.step rfl ?_; simp [opV]; done) | (refine OpsW.step rfl ?_; simp [opV]) | (refine OpsW.step ?_ ?_; (focus (simp [wantedA]; done)); simp [opV]) | (refine OpsW.un ?_ ?_; (focus (simp [wantedA]; done))))); (refine OpsW.nil ?_; try simp only [andThen, endBlock]))))
                (refine W.drawnS mixedP (selfC_ok hcall self0_ok) [(0, 0), (1, 0), (2, 0), (3, 0), (4, 0), (5, 0), (6, 0), (7, 0), (8, 0), (9, 0)] (by rfl) (by kernel_rfl) ?_; (repeat (first | (refine RSW.step rfl rfl ?_; simp [stepV, cls, s.e12, s.e13, e18, s.ai.idx Tryz.underlying25 Tryz.sz36 hbl, s.ai.load Tryz.sh36 hbl, s.ao.idx Tryz.underlying25 Tryz.sz36 hlt, s.ao.load Tryz.sh36 hlt, opA_callf, selfC_call]) | (refine RSW.step rfl ?_ ?_; (focus (simp [wantedA, s.e12, s.e13, e18, s.ai.idx Tryz.underlying25 Tryz.sz36 hbl, s.ai.load Tryz.sh36 hbl, s.ao.idx Tryz.underlying25 Tryz.sz36 hlt, s.ao.load Tryz.sh36 hlt, opA_callf, selfC_call]; done)); simp [stepV, cls, s.e12, s.e13, e18, s.ai.idx Tryz.underlying25 Tryz.sz36 hbl, s.ai.load Tryz.sh36 hbl, s.ao.idx Tryz.underlying25 Tryz.sz36 hlt, s.ao.load Tryz.sh36 hlt, opA_callf, selfC_call]) | (refine RSW.un rfl ?_ ?_ ?_; (focus (simp [wantedA, s.e12, s.e13, e18, s.ai.idx Tryz.underlying25 Tryz.sz36 hbl, s.ai.load Tryz.sh36 hbl, s.ao.idx Tryz.underlying25 Tryz.sz36 hlt, s.ao.load Tryz.sh36 hlt, opA_callf, selfC_call]; done)); (focus (simp [cls]; done))))); refine RSW.nil ?_; try simp only [andThen, endBlock])
                cases more3 with
                | true =>
                  ((try simp only [andThen, endBlock, if_true]); repeat (first | with_reducible refine W.seq ?_ | with_reducible refine W.block ?_ | (refine W.region (by rfl) ?_; (repeat (first | (refine OpsW.step rfl ?_; simp [opV, s.e14, s.e12, e18, e19, e1, ai4.idx Tryz.underlying25 Tryz.sz36 hbl, ai4.load Tryz.sh36 hbl, ai4.store Tryz.sz36 g1.cells hbl, IntSl.len g1.1 (P := Tryz.prog) Tryz.underlying36, IntSl.len (ai4.el b hbl).1 (P := Tryz.prog) Tryz.underlying36]; done) | (refine OpsW.step rfl ?_; simp [opV, s.e14, s.e12, e18, e19, e1, ai4.idx Tryz.underlying25 Tryz.sz36 hbl, ai4.load Tryz.sh36 hbl, ai4.store Tryz.sz36 g1.cells hbl, IntSl.len g1.1 (P := Tryz.prog) Tryz.underlying36, IntSl.len (ai4.el b hbl).1 (P := Tryz.prog) Tryz.underlying36]) | (refine OpsW.step ?_ ?_; (focus (simp [wantedA, s.e14, s.e12, e18, e19, e1, ai4.idx Tryz.underlying25 Tryz.sz36 hbl, ai4.load Tryz.sh36 hbl, ai4.store Tryz.sz36 g1.cells hbl, IntSl.len g1.1 (P := Tryz.prog) Tryz.underlying36, IntSl.len (ai4.el b hbl).1 (P := Tryz.prog) Tryz.underlying36]; done)); simp [opV, s.e14, s.e12, e18, e19, e1, ai4.idx Tryz.underlying25 Tryz.sz36 hbl, ai4.load Tryz.sh36 hbl, ai4.store Tryz.sz36 g1.cells hbl, IntSl.len g1.1 (P := Tryz.prog) Tryz.underlying36, IntSl.len (ai4.el b hbl).1 (P := Tryz.prog) Tryz.underlying36]) | (refine OpsW.un ?_ ?_; (focus (simp [wantedA, s.e14, s.e12, e18, e19, e1, ai4.idx Tryz.underlying25 Tryz.sz36 hbl, ai4.load Tryz.sh36 hbl, ai4.store Tryz.sz36 g1.cells hbl, IntSl.len g1.1 (P := Tryz.prog) Tryz.underlying36, IntSl.len (ai4.el b hbl).1 (P := Tryz.prog) Tryz.underlying36]; done))))); (refine OpsW.nil ?_; try simp only [andThen, endBlock]))))
                  refine ⟨_, ?_, i + 1, (updF I3 b (I3 b ||| O3 a)), O3, (true || decide (¬ ((lst (I3 b ||| O3 a)).length : Int) = (lst (I3 b)).length)), (ci3.set b u), co3, rfl, by omega, s.to (by simp) ?_ ((s.ext.trans g2).put (by exact hok.hbi) _) (ai4.put g1 hpu.1 hpu.2 (.inl rfl) hbl) (ao4.other (fun e => hok.ne e.symm) (.inl rfl) _), by simp [e18], by simp [e19, wrap_succ hit hn.2], ?_, ?_⟩
                  · omega
                  · simp
                  · rw [RC.Rn, hfw]; exact hp'.1
                  · intro hm; simp at hm
                | false =>
                  ((try simp only [andThen, endBlock, if_true]); repeat (first | with_reducible refine W.seq ?_ | with_reducible refine W.block ?_ | (refine W.region (by rfl) ?_; (repeat (first | (refine OpsW.step rfl ?_; simp [opV, s.e14, s.e12, e18, e19, e1, ai4.idx Tryz.underlying25 Tryz.sz36 hbl, ai4.load Tryz.sh36 hbl, ai4.store Tryz.sz36 g1.cells hbl, IntSl.len g1.1 (P := Tryz.prog) Tryz.underlying36, IntSl.len (ai4.el b hbl).1 (P := Tryz.prog) Tryz.underlying36]; done) | (refine OpsW.step rfl ?_; simp [opV, s.e14, s.e12, e18, e19, e1, ai4.idx Tryz.underlying25 Tryz.sz36 hbl, ai4.load Tryz.sh36 hbl, ai4.store Tryz.sz36 g1.cells hbl, IntSl.len g1.1 (P := Tryz.prog) Tryz.underlying36, IntSl.len (ai4.el b hbl).1 (P := Tryz.prog) Tryz.underlying36]) | (refine OpsW.step ?_ ?_; (focus (simp [wantedA, s.e14, s.e12, e18, e19, e1, ai4.idx Tryz.underlying25 Tryz.sz36 hbl, ai4.load Tryz.sh36 hbl, ai4.store Tryz.sz36 g1.cells hbl, IntSl.len g1.1 (P := Tryz.prog) Tryz.underlying36, IntSl.len (ai4.el b hbl).1 (P := Tryz.prog) Tryz.underlying36]; done)); simp [opV, s.e14, s.e12, e18, e19, e1, ai4.idx Tryz.underlying25 Tryz.sz36 hbl, ai4.load Tryz.sh36 hbl, ai4.store Tryz.sz36 g1.cells hbl, IntSl.len g1.1 (P := Tryz.prog) Tryz.underlying36, IntSl.len (ai4.el b hbl).1 (P := Tryz.prog) Tryz.underlying36]) | (refine OpsW.un ?_ ?_; (focus (simp [wantedA, s.e14, s.e12, e18, e19, e1, ai4.idx Tryz.underlying25 Tryz.sz36 hbl, ai4.load Tryz.sh36 hbl, ai4.store Tryz.sz36 g1.cells hbl, IntSl.len g1.1 (P := Tryz.prog) Tryz.underlying36, IntSl.len (ai4.el b hbl).1 (P := Tryz.prog) Tryz.underlying36]; done))))); (refine OpsW.nil ?_; try simp only [andThen, endBlock]))))
                  refine ⟨_, ?_, i + 1, (updF I3 b (I3 b ||| O3 a)), O3, (false || decide (¬ ((lst (I3 b ||| O3 a)).length : Int) = (lst (I3 b)).length)), (ci3.set b u), co3, rfl, by omega, s.to (by simp) ?_ ((s.ext.trans g2).put (by exact hok.hbi) _) (ai4.put g1 hpu.1 hpu.2 (.inl rfl) hbl) (ao4.other (fun e => hok.ne e.symm) (.inl rfl) _), by simp [e18], by simp [e19, wrap_succ hit hn.2], ?_, ?_⟩
                  · omega
                  · simp
                  · rw [RC.Rn, hfw]; exact hp'.1
                  · intro hm
                    refine ⟨(hp rfl).1, (hp rfl).2.1, take_succ_mem hit (hp rfl).2.2 ?_⟩
                    have hq := hp'.2 ⟨rfl, by simpa using hm⟩
                    rw [hbx]
                    simp only [RC.P2, hfw]
                    simpa using hq
              | false =>
                have e1 : e.get 1 = .bool false := by rw [s.e1, hfw]
                have rn' : Rnd c.nx.length (Edge false c.nx) (GK c.gs) (GK c.ks) X0 Y0 O3 I3 more3 := by have := rn; rw [RC.Rn, hfw] at this; exact this
                obtain ⟨u, A4, hcall, g1, g2, g3⟩ := union_spec A2 (vx co3 a) (vx ci3 b) _ _ (s.ao.el a hlt) (s.ai.el b hbl)
                have hpu : pb u ≠ c.bi ∧ pb u ≠ c.bo := by
                  rcases g3 with rfl | g3
                  · exact ⟨s.ao.ni a hlt, s.ao.no a hlt⟩
                  · have := s.ai.lt; have := s.ao.lt; omega
                have ai4 := s.ai.ext g2
                have ao4 := s.ao.ext g2
                have hp' := rn'.join (s := b) (d := a) hbl hlt (by exact hbm)
                ((try simp only [andThen, endBlock, if_true]); repeat (first | with_reducible refine W.seq ?_ | with_reducible refine W.block ?_ | (refine W.region (by rfl) ?_; (repeat (first | (refine OpsW.step rfl ?_; simp [opV, s.e4, e18, e19, box_load hb.get Tryz.sh22, Fl.len hf (P := Tryz.prog) Tryz.underlying22, Fl.idx hf Tryz.underlying22 Tryz.sz39 hlt, Fl.load hf Tryz.sh36 hlt, IntSl.idx hn Tryz.underlying36 Tryz.sz3 hit, IntSl.load hn Tryz.sh3 hit, hbx, e1]; done) | (refine OpsW.step rfl ?_; simp [opV, s.e4, e18, e19, box_load hb.get Tryz.sh22, Fl.len hf (P := Tryz.prog) Tryz.underlying22, Fl.idx hf Tryz.underlying22 Tryz.sz39 hlt, Fl.load hf Tryz.sh36 hlt, IntSl.idx hn Tryz.underlying36 Tryz.sz3 hit, IntSl.load hn Tryz.sh3 hit, hbx, e1]) | (refine OpsW.step ?_ ?_; (focus (simp [wantedA, s.e4, e18, e19, box_load hb.get Tryz.sh22, Fl.len hf (P := Tryz.prog) Tryz.underlying22, Fl.idx hf Tryz.underlying22 Tryz.sz39 hlt, Fl.load hf Tryz.sh36 hlt, IntSl.idx hn Tryz.underlying36 Tryz.sz3 hit, IntSl.load hn Tryz.sh3 hit, hbx, e1]; done)); simp [opV, s.e4, e18, e19, box_load hb.get Tryz.sh22, Fl.len hf (P := Tryz.prog) Tryz.underlying22, Fl.idx hf Tryz.underlying22 Tryz.sz39 hlt, Fl.load hf Tryz.sh36 hlt, IntSl.idx hn Tryz.underlying36 Tryz.sz3 hit, IntSl.load hn Tryz.sh3 hit, hbx, e1]) | (refine OpsW.un ?_ ?_; (focus (simp [wantedA, s.e4, e18, e19, box_load hb.get Tryz.sh22, Fl.len hf (P := Tryz.prog) Tryz.underlying22, Fl.idx hf Tryz.underlying22 Tryz.sz39 hlt, Fl.load hf Tryz.sh36 hlt, IntSl.idx hn Tryz.underlying36 Tryz.sz3 hit, IntSl.load hn Tryz.sh3 hit, hbx, e1]; done))))); (refine OpsW.nil ?_; try simp only [andThen, endBlock]))))
                (refine W.cond false ?_ ?_; (focus (simp; done)); simp only [Bool.false_eq_true, if_false])
                ((try simp only [andThen, endBlock, if_true]); repeat (first | with_reducible refine W.seq ?_ | with_reducible refine W.block ?_ | (refine W.region (by rfl) ?_; (repeat (first | (refine OpsW.step rfl ?_; simp [opV]; done) | (refine OpsW.step rfl ?_; simp [opV]) | (refine OpsW.step ?_ ?_; (focus (simp [wantedA]; done)); simp [opV]) | (refine OpsW.un ?_ ?_; (focus (simp [wantedA]; done))))); (refine OpsW.nil ?_; try simp only [andThen, endBlock]))))
                (refine W.drawnS mixedP (selfC_ok hcall self0_ok) [(0, 0), (1, 0), (2, 0), (3, 0), (4, 0), (5, 0), (6, 0), (7, 0), (8, 0), (9, 0)] (by rfl) (by kernel_rfl) ?_; (repeat (first | (refine RSW.step rfl rfl ?_; simp [stepV, cls, s.e12, s.e13, e18, s.ai.idx Tryz.underlying25 Tryz.sz36 hbl, s.ai.load Tryz.sh36 hbl, s.ao.idx Tryz.underlying25 Tryz.sz36 hlt, s.ao.load Tryz.sh36 hlt, opA_callf, selfC_call]) | (refine RSW.step rfl ?_ ?_; (focus (simp [wantedA, s.e12, s.e13, e18, s.ai.idx Tryz.underlying25 Tryz.sz36 hbl, s.ai.load Tryz.sh36 hbl, s.ao.idx Tryz.underlying25 Tryz.sz36 hlt, s.ao.load Tryz.sh36 hlt, opA_callf, selfC_call]; done)); simp [stepV, cls, s.e12, s.e13, e18, s.ai.idx Tryz.underlying25 Tryz.sz36 hbl, s.ai.load Tryz.sh36 hbl, s.ao.idx Tryz.underlying25 Tryz.sz36 hlt, s.ao.load Tryz.sh36 hlt, opA_callf, selfC_call]) | (refine RSW.un rfl ?_ ?_ ?_; (focus (simp [wantedA, s.e12, s.e13, e18, s.ai.idx Tryz.underlying25 Tryz.sz36 hbl, s.ai.load Tryz.sh36 hbl, s.ao.idx Tryz.underlying25 Tryz.sz36 hlt, s.ao.load Tryz.sh36 hlt, opA_callf, selfC_call]; done)); (focus (simp [cls]; done))))); refine RSW.nil ?_; try simp only [andThen, endBlock])
                cases more3 with
                | true =>
                  ((try simp only [andThen, endBlock, if_true]); repeat (first | with_reducible refine W.seq ?_ | with_reducible refine W.block ?_ | (refine W.region (by rfl) ?_; (repeat (first | (refine OpsW.step rfl ?_; simp [opV, s.e14, s.e13, e18, e19, e1, ao4.idx Tryz.underlying25 Tryz.sz36 hlt, ao4.load Tryz.sh36 hlt, ao4.store Tryz.sz36 g1.cells hlt, IntSl.len g1.1 (P := Tryz.prog) Tryz.underlying36, IntSl.len (ao4.el a hlt).1 (P := Tryz.prog) Tryz.underlying36]; done) | (refine OpsW.step rfl ?_; simp [opV, s.e14, s.e13, e18, e19, e1, ao4.idx Tryz.underlying25 Tryz.sz36 hlt, ao4.load Tryz.sh36 hlt, ao4.store Tryz.sz36 g1.cells hlt, IntSl.len g1.1 (P := Tryz.prog) Tryz.underlying36, IntSl.len (ao4.el a hlt).1 (P := Tryz.prog) Tryz.underlying36]) | (refine OpsW.step ?_ ?_; (focus (simp [wantedA, s.e14, s.e13, e18, e19, e1, ao4.idx Tryz.underlying25 Tryz.sz36 hlt, ao4.load Tryz.sh36 hlt, ao4.store Tryz.sz36 g1.cells hlt, IntSl.len g1.1 (P := Tryz.prog) Tryz.underlying36, IntSl.len (ao4.el a hlt).1 (P := Tryz.prog) Tryz.underlying36]; done)); simp [opV, s.e14, s.e13, e18, e19, e1, ao4.idx Tryz.underlying25 Tryz.sz36 hlt, ao4.load Tryz.sh36 hlt, ao4.store Tryz.sz36 g1.cells hlt, IntSl.len g1.1 (P := Tryz.prog) Tryz.underlying36, IntSl.len (ao4.el a hlt).1 (P := Tryz.prog) Tryz.underlying36]) | (refine OpsW.un ?_ ?_; (focus (simp [wantedA, s.e14, s.e13, e18, e19, e1, ao4.idx Tryz.underlying25 Tryz.sz36 hlt, ao4.load Tryz.sh36 hlt, ao4.store Tryz.sz36 g1.cells hlt, IntSl.len g1.1 (P := Tryz.prog) Tryz.underlying36, IntSl.len (ao4.el a hlt).1 (P := Tryz.prog) Tryz.underlying36]; done))))); (refine OpsW.nil ?_; try simp only [andThen, endBlock]))))
                  refine ⟨_, ?_, i + 1, I3, (updF O3 a (O3 a ||| I3 b)), (true || decide (¬ ((lst (O3 a ||| I3 b)).length : Int) = (lst (O3 a)).length)), ci3, (co3.set a u), rfl, by omega, s.to (by simp) ?_ ((s.ext.trans g2).put (by exact hok.hbo) _) (ai4.other hok.ne (.inr rfl) _) (ao4.put g1 hpu.1 hpu.2 (.inr rfl) hlt), by simp [e18], by simp [e19, wrap_succ hit hn.2], ?_, ?_⟩
                  · omega
                  · simp
                  · rw [RC.Rn, hfw]; exact hp'.1
                  · intro hm; simp at hm
                | false =>
                  ((try simp only [andThen, endBlock, if_true]); repeat (first | with_reducible refine W.seq ?_ | with_reducible refine W.block ?_ | (refine W.region (by rfl) ?_; (repeat (first | (refine OpsW.step rfl ?_; simp [opV, s.e14, s.e13, e18, e19, e1, ao4.idx Tryz.underlying25 Tryz.sz36 hlt, ao4.load Tryz.sh36 hlt, ao4.store Tryz.sz36 g1.cells hlt, IntSl.len g1.1 (P := Tryz.prog) Tryz.underlying36, IntSl.len (ao4.el a hlt).1 (P := Tryz.prog) Tryz.underlying36]; done) | (refine OpsW.step rfl ?_; simp [opV, s.e14, s.e13, e18, e19, e1, ao4.idx Tryz.underlying25 Tryz.sz36 hlt, ao4.load Tryz.sh36 hlt, ao4.store Tryz.sz36 g1.cells hlt, IntSl.len g1.1 (P := Tryz.prog) Tryz.underlying36, IntSl.len (ao4.el a hlt).1 (P := Tryz.prog) Tryz.underlying36]) | (refine OpsW.step ?_ ?_; (focus (simp [wantedA, s.e14, s.e13, e18, e19, e1, ao4.idx Tryz.underlying25 Tryz.sz36 hlt, ao4.load Tryz.sh36 hlt, ao4.store Tryz.sz36 g1.cells hlt, IntSl.len g1.1 (P := Tryz.prog) Tryz.underlying36, IntSl.len (ao4.el a hlt).1 (P := Tryz.prog) Tryz.underlying36]; done)); simp [opV, s.e14, s.e13, e18, e19, e1, ao4.idx Tryz.underlying25 Tryz.sz36 hlt, ao4.load Tryz.sh36 hlt, ao4.store Tryz.sz36 g1.cells hlt, IntSl.len g1.1 (P := Tryz.prog) Tryz.underlying36, IntSl.len (ao4.el a hlt).1 (P := Tryz.prog) Tryz.underlying36]) | (refine OpsW.un ?_ ?_; (focus (simp [wantedA, s.e14, s.e13, e18, e19, e1, ao4.idx Tryz.underlying25 Tryz.sz36 hlt, ao4.load Tryz.sh36 hlt, ao4.store Tryz.sz36 g1.cells hlt, IntSl.len g1.1 (P := Tryz.prog) Tryz.underlying36, IntSl.len (ao4.el a hlt).1 (P := Tryz.prog) Tryz.underlying36]; done))))); (refine OpsW.nil ?_; try simp only [andThen, endBlock]))))
                  refine ⟨_, ?_, i + 1, I3, (updF O3 a (O3 a ||| I3 b)), (false || decide (¬ ((lst (O3 a ||| I3 b)).length : Int) = (lst (O3 a)).length)), ci3, (co3.set a u), rfl, by omega, s.to (by simp) ?_ ((s.ext.trans g2).put (by exact hok.hbo) _) (ai4.other hok.ne (.inr rfl) _) (ao4.put g1 hpu.1 hpu.2 (.inr rfl) hlt), by simp [e18], by simp [e19, wrap_succ hit hn.2], ?_, ?_⟩
                  · omega
                  · simp
                  · rw [RC.Rn, hfw]; exact hp'.1
                  · intro hm
                    refine ⟨(hp rfl).1, (hp rfl).2.1, take_succ_mem hit (hp rfl).2.2 ?_⟩
                    have hq := hp'.2 ⟨rfl, by simpa using hm⟩
                    rw [hbx]
                    simp only [RC.P2, hfw]
                    simpa using hq
          · clear hp rn s e18
            rintro x e A2 ⟨rfl, I3, O3, more3, ci3, co3, s, e18, rn, hp⟩
            ((try simp only [andThen, endBlock, if_true]); repeat (first | with_reducible refine W.seq ?_ | with_reducible refine W.block ?_ | (refine W.region (by rfl) ?_; (repeat (first | (refine OpsW.step rfl ?_; simp [opV, e18]; done) | (refine OpsW.step rfl ?_; simp [opV, e18]) | (refine OpsW.step ?_ ?_; (focus (simp [wantedA, e18]; done)); simp [opV, e18]) | (refine OpsW.un ?_ ?_; (focus (simp [wantedA, e18]; done))))); (refine OpsW.nil ?_; try simp only [andThen, endBlock]))))
            exact ⟨_, by omega, a + 1, I3, O3, more3, ci3, co3, rfl, by omega, s.to (by simp) (by simp [s.e14]) s.ext s.ai s.ao, by simp [wrap_succ hlt hok.fl.le], rn, hp⟩
      · clear hp rn s
        rintro x e A2 ⟨rfl, I2, O2, more2, ci2, co2, s, rn, hp⟩
        simp only [andThen, endBlock, if_true]
        have hl := rn.left (by subst hX0; subst hY0; exact good)
        refine ⟨_, ?_, I2, O2, more2, ci2, co2, s, rn.good, rfl, fun hm => ?_⟩
        · subst hX0; subst hY0; exact hl
        · subst hm
          refine Rnd.done rn (hp rfl).1 fun s d hs hd he => ?_
          have hq := (hp rfl).2
          cases hfw : c.fwd with
          | true =>
            rw [hfw] at he
            have := hq s hs (d : Int) he
            simp only [RC.P2, hfw] at this
            simpa using this
          | false =>
            rw [hfw] at he
            have := hq d hd (s : Int) he
            simp only [RC.P2, hfw] at this
            simpa using this
  · rintro x e A4 ⟨rfl, I, O, ci, co, st, hleast⟩
    ((try simp only [andThen, endBlock, if_true]); repeat (first | with_reducible refine W.seq ?_ | with_reducible refine W.block ?_ | (refine W.region (by rfl) ?_; (repeat (first | (refine OpsW.step rfl ?_; simp [opV, st.e12, st.e13]; done) | (refine OpsW.step rfl ?_; simp [opV, st.e12, st.e13]) | (refine OpsW.step ?_ ?_; (focus (simp [wantedA, st.e12, st.e13]; done)); simp [opV, st.e12, st.e13]) | (refine OpsW.un ?_ ?_; (focus (simp [wantedA, st.e12, st.e13]; done))))); (refine OpsW.nil ?_; try simp only [andThen, endBlock]))))
    (refine W.ret ?_; try simp only [andThen, endBlock])
    refine ⟨.inr rfl, [.slice c.bi 0 c.nx.length c.nx.length true 1, .slice c.bo 0 c.nx.length c.nx.length true 1, IV 0], by simp [Tryz.f8, resultsA, resultA], ?_⟩
    have hlen : c.nx.length ≤ Most := hok.fl.le
    refine ⟨.inr ⟨⟨hval, hsg, hsk⟩, _, _, I, O, ci, co, rfl, ?_, ?_, ?_⟩, hx03.trans (by subst hc; exact st.ext)⟩
    · have := st.ai.LL hlen; subst hc; exact this
    · have := st.ao.LL hlen; subst hc; exact this
    · subst hc; exact hleast
end Go.Proofs
