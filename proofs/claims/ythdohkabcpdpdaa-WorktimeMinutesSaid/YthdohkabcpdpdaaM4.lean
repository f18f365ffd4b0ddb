import Derived.Test.YthdohkabcpdpdaaM0
namespace Go.Proofs.Ythdohkabcpdpdaa.M
open Go.RowKit Go.Proofs.YthdohkabcpdpdaaW.PrintWords Go.Proofs.YthdohkabcpdpdaaW.PrintLast Go.Proofs.YthdohkabcpdpdaaW.PrintMore
attribute [local go_sem] max2_int min2_int max_two min_two max_three min_three max_four min_four   -- for this text's walks alone
set_option linter.unusedVariables false
set_option linter.unusedSimpArgs false
theorem store_step {α : Type} {P : Program} {ops : Array Oper} {o : Oper} {a : Act} {Q : Exit → Act → World → Prop} {Kc : Act → World → Prop} (d : Kd α) {w0 W : World} (base : Nat) (hw : Region.wanted o (yielded ops a.tmps) = true) (hN : o.dst = none) (t : TypeId) (p x : Operand) (ho : o.op = .store t p x) (e : TypeId) {g n cap o' : Nat} (i : Int) (xs : List α) (x' : α) (u : Value) (seg c : List Value) (ok okp : Nat → Prop)
    (haddr : a.eval p = .pointer (some ⟨g, o', none⟩)) (hoff : o' = i.toNat * d.sz) (hx : a.eval x = u) (hu : u.cells.toList = seg) (ht : (P.info? t).map (·.size) = some seg.length) (h1 : ∀ q ∈ seg, q.oneCell' = true)
    (HO : Kd.N d e W base ok (.slice (some ⟨g, 0, none⟩) n cap) xs) (h0 : 0 ≤ i) (hi : i < n) (hcl : c.length = d.sz) (hcc : ∀ j u, c[j]? = some u → W.cell? ⟨g, i.toNat * d.sz + j, none⟩ = some u)
    (hj : seg.length = d.sz) (hM : Kd.FK d W okp x' seg) (hokp : ∀ k, okp k → ok k ∧ k ≠ g) (HB : Below base w0 W)
    (h : ∀ w1, Kd.N d e w1 base ok (.slice (some ⟨g, 0, none⟩) n cap) (xs.set i.toNat x') → Below base w0 w1 → W.grownBy w1 (some g) → Kc a w1) : if Region.wanted o (yielded ops a.tmps) = true then Oper.wp P o a W Kc Q else Kc (a.put o.dst undef) W := by
  rw [if_pos hw]
  obtain ⟨hown0, rows, hl, hR, hf⟩ := HO
  have hseg:c.take 0 ++ seg ++ c.drop (0 + seg.length) = seg:=by rw[List.take_zero,List.nil_append,List.drop_of_length_le (by omega),List.append_nil]
  have hM' : Kd.FK d W okp x' (c.take 0 ++ seg ++ c.drop (0 + seg.length)) := by rw [hseg]; exact hM
  obtain ⟨hrow,hg⟩:=Kd.R_seg (Kd.raw_any hR) i h0 hi hcl hcc (j:=0) (seg:=seg) (show 0 + seg.length≤d.sz by omega) (Kd.FK_raw hM') (okp:=fun _=>False) (fun _ hk=>hk.elim)
  rw [hseg] at hrow
  have hbg : base ≤ g := Kd.R_base hR g (by simp [Value.ownBlock])
  have hnx : n = rows.length := (Kd.R_reads' hR).1
  have hR2 := hR
  obtain ⟨_, inner, hown, hr⟩ := hR2
  have hil : i.toNat < n := by omega
  subst hoff
  have hB:Below base w0 (W.setCells g (i.toNat * d.sz) seg):=HB.trans ⟨hg.os,hg.tape,hg.output,hg.size,fun k hk=>by
    have hlt : k < W.heap.size ∨ W.heap.size ≤ k := Nat.lt_or_ge _ _
    rcases hlt with hlt | hge
    · exact hg.block k hlt (fun he => by injection he with he; omega)
    · exact setCells_far seg _ k (by omega)⟩
  have hrun:(Instr.storeAt t (.pointer (some ⟨g,i.toNat * d.sz,none⟩)) u).run P W = .ok () (W.setCells g (i.toNat * d.sz) seg):=by
    rcases hown.2 with ⟨hv, _⟩ | ⟨g', cap', cur, hv, hb, hh, hnc, hcm, hcs, _⟩
    · cases hv
    injection hv with ha _ hc
    injection ha with ha
    injection ha with hg'
    subst hg'; subst hc
    refine run_store_run t u seg hh hu ht ?_ h1
    have hcs' : cur.size = cap * d.sz := hcs
    have h2 : i.toNat * d.sz + d.sz ≤ n * d.sz := by rw [← Nat.succ_mul]; exact Nat.mul_le_mul_right _ hil
    have h3 : n * d.sz ≤ cap * d.sz := Nat.mul_le_mul_right _ (by omega)
    omega
  unfold Oper.wp execOp
  simp only [ho, haddr, hx, Sem.run_bind, Sem.run_pure, Result.andThen_ok, hrun]
  show Kc (a.put o.dst undef) _
  rw [hN]
  exact h _ (Kd.N_written hown0 hl hf hrow hg hM hokp) hB hg
end Go.Proofs.Ythdohkabcpdpdaa.M
