/- What simp is to know of structs that are compared, copy, interfaces, closures and calls that are walked in place. -/
import Derived.Test.YtaopaongpoecoaaAb29
set_option linter.unusedVariables false
set_option linter.unusedSimpArgs false
namespace Go.Proofs.Ytaopaongpoecoaa
open Go.RowKit


section
variable (E : Prg) (F : FTab) (K : St → Prop) (st : St) (dst : Option Nat) (z : Bool) (f : Nat) (args : List Opd)

theorem stV_inv (dr : Bool) (y : Opd) (name : String) : stV E F dr (.inv y name args) dst z st K = invV E F dr (invOf E st.objs (Opd.ev E st y) name) (args.map (Opd.ev E st)) st.objs fun d T' => goSt (nx st (d, T') z dst) K := nrfl _
theorem ot_fin (op : ROp) : (OT.fin ⟨dst, op, none, z⟩).wp E F K st = stV E F false op dst z st K := nrfl _
theorem ot_fing (op : ROp) (t : Nat) (w : Bool) : (OT.fin ⟨dst, op, some (t, w), z⟩).wp E F K st = bindG (st.get t) (fun b => cnd (b == w) (goSt (st.know t w) fun st => stV E F false op dst z st K) (goSt ((st.know t (!w)).put dst .no) K)) (goSt (st.put dst .no) K) := nrfl _
theorem stV_eqS (dr : Bool) (g : Bool) (ks : List CK) (x y : Opd) : stV E F dr (.eqS g ks x y) dst z st K = bindO (rvl E st (.eqS g ks x y)) fun p => goSt (nx st p z dst) K := stV_op E F K st dst (.eqS g ks x y) z dr rfl
theorem stV_copy (dr : Bool) (sz : Nat) (x y : Opd) : stV E F dr (.copy sz x y) dst z st K = bindO (rvl E st (.copy sz x y)) fun p => goSt (nx st p z dst) K := stV_op E F K st dst (.copy sz x y) z dr rfl
theorem stV_mkfn (dr : Bool) (l : List Opd) : stV E F dr (.mkfn f l) dst z st K = bindO (rvl E st (.mkfn f l)) fun p => goSt (nx st p z dst) K := stV_op E F K st dst (.mkfn f l) z dr rfl
theorem stV_mkIfc (dr : Bool) (t : TypeId) (x : Opd) : stV E F dr (.mkIfc t x) dst z st K = bindO (rvl E st (.mkIfc t x)) fun p => goSt (nx st p z dst) K := stV_op E F K st dst (.mkIfc t x) z dr rfl
theorem stV_asrt (dr : Bool) (t : TypeId) (x : Opd) : stV E F dr (.asrt t x) dst z st K = bindO (rvl E st (.asrt t x)) fun p => goSt (nx st p z dst) K := stV_op E F K st dst (.asrt t x) z dr rfl
theorem stV_eqP (dr : Bool) (g : Bool) (x y : Opd) : stV E F dr (.eqP g x y) dst z st K = bindO (rvl E st (.eqP g x y)) fun p => goSt (nx st p z dst) K := stV_op E F K st dst (.eqP g x y) z dr rfl
theorem rvl_eqP (g : Bool) (x y : Opd) : rvl E st (.eqP g x y) = (nilP (x.ev E st) (y.ev E st)).map fun b => (.bool (if g then !b else b), st.objs) := nrfl _
theorem nilP_ptr (o i j : Nat) : nilP (.ptr o i j) (.lit (.pointer none)) = some false := nrfl _
theorem nilP_rp (row : List DV) (j : Nat) : nilP (.rp row j) (.lit (.pointer none)) = some false := nrfl _
theorem nilP_nil : nilP (.lit (.pointer none)) (.lit (.pointer none)) = some true := nrfl _
theorem invV_some (d : DV) (as : List DV) (T : Objs) (L : DV → Objs → Prop) : invV E F false (some (f, d)) as T L = (hasBody E.P f = true ∧ callV E (F f (d :: as)) false f (d :: as) T L) := nrfl _
theorem calldV_clo (cs as : List DV) (T : Objs) (L : DV → Objs → Prop) : calldV E F false (.wrap (.clo f) cs) as T L = (hasBody E.P f = true ∧ callV E (F f (as ++ cs)) false f (as ++ cs) T L) := nrfl _
theorem invOf_ifc (T : Objs) (t : TypeId) (x : DV) (name : String) : invOf E T (.wrap (.ifc t) [x]) name = invRow T x (methRow E.P t name) := nrfl _
theorem invOf_ifa (T : Objs) (t : TypeId) (cs : List DV) (name : String) : invOf E T (.wrap (.ifa t) cs) name = invRow T (.agg cs) (methRow E.P t name) := nrfl _
theorem invRow_some (T : Objs) (d : DV) (way : Option (Bool × Nat)) : invRow T d (some (f, way)) = (invRecv T way d).map fun x => (f, x) := nrfl _
theorem invRecv_self (T : Objs) (d : DV) : invRecv T none d = some d := nrfl _
theorem invRecv_ptr (T : Objs) (ag : Bool) (sz o i j : Nat) : invRecv T (some (ag, sz)) (.ptr o i j) = (T[o]?).bind fun x => x.bind fun ob => (ob.rows[i]?).bind fun row => rowAt ag sz row j := by
  simp only [invRecv]
  generalize T[o]? = x
  rcases x with _ | _ | ob <;> try rfl
  simp only [Option.bind]
  generalize ob.rows[i]? = y
  cases y <;> rfl
theorem invRecv_rp (T : Objs) (ag : Bool) (sz j : Nat) (row : List DV) : invRecv T (some (ag, sz)) (.rp row j) = rowAt ag sz row j := nrfl _

theorem rvl_mkfn (l : List Opd) : rvl E st (.mkfn f l) = some (.wrap (.clo f) (l.map (Opd.ev E st)), st.objs) := nrfl _
def mkIfcV (t : TypeId) : DV → DV
  | .agg cs => .wrap (.ifa t) cs
  | d => .wrap (.ifc t) [d]
theorem rvl_mkIfc (t : TypeId) (x : Opd) : rvl E st (.mkIfc t x) = some (mkIfcV t (x.ev E st), st.objs) := by
  simp only [rvl, rval]
  cases x.ev E st <;> rfl
theorem mkIfcV_agg (t : TypeId) (cs : List DV) : mkIfcV t (.agg cs) = .wrap (.ifa t) cs := nrfl _
theorem mkIfcV_ptr (t : TypeId) (o i j : Nat) : mkIfcV t (.ptr o i j) = .wrap (.ifc t) [.ptr o i j] := nrfl _
theorem mkIfcV_rp (t : TypeId) (row : List DV) (j : Nat) : mkIfcV t (.rp row j) = .wrap (.ifc t) [.rp row j] := nrfl _
theorem mkIfcV_int (t : TypeId) (k : IntKind) (n : Int) : mkIfcV t (.int k n) = .wrap (.ifc t) [.int k n] := nrfl _
theorem mkIfcV_str (t : TypeId) (s : List UInt8) : mkIfcV t (.str s) = .wrap (.ifc t) [.str s] := nrfl _
theorem mkIfcV_own (t : TypeId) (o i j : Nat) : mkIfcV t (.own o i j) = .wrap (.ifc t) [.own o i j] := nrfl _
theorem mkIfcV_sl (t : TypeId) (s : Nat) (rows : List (List DV)) (k : SK) : mkIfcV t (.sl s rows k) = .wrap (.ifc t) [.sl s rows k] := nrfl _
def asrtV (t : TypeId) : DV → Option DV
  | .wrap (.ifc t') [d] => if t' = t then some d else none
  | .wrap (.ifa t') cs => if t' = t then some (.agg cs) else none
  | _ => none
theorem rvl_asrt (t : TypeId) (x : Opd) : rvl E st (.asrt t x) = (asrtV t (x.ev E st)).map (·, st.objs) := by
  simp only [rvl, rval]
  generalize x.ev E st = d
  unfold asrtV
  split
  · dsimp only; split <;> rfl
  · dsimp only; split <;> rfl
  · rename_i h1 h2
    split
    · exact (h1 _ _ rfl).elim
    · exact (h2 _ _ rfl).elim
    · rfl
theorem asrtV_ifc (t : TypeId) (d : DV) : asrtV t (.wrap (.ifc t) [d]) = some d := by simp [asrtV]
theorem asrtV_ifa (t : TypeId) (cs : List DV) : asrtV t (.wrap (.ifa t) cs) = some (.agg cs) := by simp [asrtV]

def eqsV (ks : List CK) : DV → DV → Option Bool
  | .agg a, .agg b => eqCells ks a b
  | _, _ => none
theorem rvl_eqS (neg : Bool) (ks : List CK) (x y : Opd) : rvl E st (.eqS neg ks x y) = (eqsV ks (x.ev E st) (y.ev E st)).map fun e => (.bool (if neg then !e else e), st.objs) := by
  simp only [rvl, rval]
  cases x.ev E st <;> cases y.ev E st <;> rfl
theorem eqsV_agg (ks : List CK) (a b : List DV) : eqsV ks (.agg a) (.agg b) = eqCells ks a b := nrfl _
theorem eqC_nil : eqCells [] [] [] = some true := nrfl _
theorem eqC_i (ks : List CK) (k : IntKind) (a b : Int) (x y : List DV) : eqCells (.i :: ks) (.int k a :: x) (.int k b :: y) = (eqCells ks x y).map (decide (a = b) && ·) := by simp [eqCells]
theorem eqC_b (ks : List CK) (a b : Bool) (x y : List DV) : eqCells (.b :: ks) (.bool a :: x) (.bool b :: y) = (eqCells ks x y).map (decide (a = b) && ·) := by simp [eqCells]

def copyO (sz o off n : Nat) (objs : Objs) (a : Nat × List (List DV)) : Ob → Option (DV × Objs)
  | .arr s rows => if off + n ≤ rows.length ∧ s = sz ∧ (a.1 = sz ∨ a.2 = []) then some (.int .i64 (min a.2.length n : Nat), objs.set o (some (.arr sz (rows.take off ++ a.2.take (min a.2.length n) ++ rows.drop (off + min a.2.length n))))) else none
  | _ => none
def copyV (sz : Nat) (objs : Objs) : DV → Option (Nat × List (List DV)) → Option (DV × Objs)
  | .own o off n, some a => (objs[o]?).bind fun x => x.bind (copyO sz o off n objs a)
  | _, _ => none
theorem rvl_copy (sz : Nat) (x y : Opd) : rvl E st (.copy sz x y) = copyV sz st.objs (x.ev E st) (rowsOf st (y.ev E st)) := by
  simp only [rvl, rval]
  generalize rowsOf st (y.ev E st) = a
  cases x.ev E st <;> cases a <;> try rfl
  rename_i o off n a
  obtain ⟨s2, new⟩ := a
  simp only [copyV]
  generalize st.objs[o]? = x
  rcases x with _ | _ | ob <;> try rfl
  cases ob <;> rfl
theorem copyV_own (sz : Nat) (objs : Objs) (o off n : Nat) (a : Nat × List (List DV)) : copyV sz objs (.own o off n) (some a) = (objs[o]?).bind fun x => x.bind (copyO sz o off n objs a) := nrfl _
theorem copyO_arr (sz o off n : Nat) (objs : Objs) (a : Nat × List (List DV)) (s : Nat) (rows : List (List DV)) : copyO sz o off n objs a (.arr s rows) = if off + n ≤ rows.length ∧ s = sz ∧ (a.1 = sz ∨ a.2 = []) then some (.int .i64 (min a.2.length n : Nat), objs.set o (some (.arr sz (rows.take off ++ a.2.take (min a.2.length n) ++ rows.drop (off + min a.2.length n))))) else none := nrfl _
end

/-- A call whose law is not in the table: simp stops there, and leaves alone what is to hold behind it. -/
def CallH (E : Prg) (f : Nat) (vals : List DV) (T : Objs) (K : DV → Objs → Prop) [Tg K] (_ : True := trivial) : Prop := CallK E f vals T K
theorem callV_H (E : Prg) (f : Nat) (as : List DV) (T : Objs) (L : DV → Objs → Prop) : callV E none false f as T L = CallH E f as T L := nrfl _
/-- Code under a name, where simp stops. -/
def WpH (E : Prg) (F : FTab) (n : Nat) (c : RC) (Q : Exit → St → Prop) (st : St) [Tg Q] [Tg c] (_ : True := trivial) : Prop := c.wp E F n Q st
theorem tab_nil (f : Nat) (as : List DV) : tab [] f as = none := nrfl _
theorem resOf_nil (st : St) : resOf st [] = some (.tup []) := nrfl _
theorem vcB5 : type_of% (And.intro @callV_H <| And.intro @tab_nil <| @resOf_nil) := And.intro @callV_H <| And.intro @tab_nil <| @resOf_nil
theorem vcB4 : type_of% (And.intro @stV_inv <| And.intro @stV_eqP <| And.intro @rvl_eqP <| And.intro @nilP_ptr <| And.intro @nilP_rp <| And.intro @nilP_nil <| And.intro @stV_eqS <| And.intro @stV_copy <| And.intro @stV_mkfn <| And.intro @stV_mkIfc <| And.intro @stV_asrt <| And.intro @ot_fin <| And.intro @ot_fing <| And.intro @invV_some <| And.intro @calldV_clo <| And.intro @invOf_ifc <| And.intro @invOf_ifa <| And.intro @invRow_some <| And.intro @invRecv_self <| And.intro @invRecv_ptr <| And.intro @invRecv_rp <| And.intro @rvl_mkfn <| And.intro @rvl_mkIfc <| And.intro @mkIfcV_agg <| And.intro @mkIfcV_ptr <| And.intro @mkIfcV_rp <| And.intro @mkIfcV_int <| And.intro @mkIfcV_str <| And.intro @mkIfcV_own <| And.intro @mkIfcV_sl <| And.intro @rvl_asrt <| And.intro @asrtV_ifc <| And.intro @asrtV_ifa <| And.intro @rvl_eqS <| And.intro @eqsV_agg <| And.intro @eqC_nil <| And.intro @eqC_i <| And.intro @eqC_b <| And.intro @rvl_copy <| And.intro @copyV_own <| And.intro @copyO_arr <| And.intro @callV_p <| And.intro @app_p <| @spec_wp) :=
  (And.intro @stV_inv <| And.intro @stV_eqP <| And.intro @rvl_eqP <| And.intro @nilP_ptr <| And.intro @nilP_rp <| And.intro @nilP_nil <| And.intro @stV_eqS <| And.intro @stV_copy <| And.intro @stV_mkfn <| And.intro @stV_mkIfc <| And.intro @stV_asrt <| And.intro @ot_fin <| And.intro @ot_fing <| And.intro @invV_some <| And.intro @calldV_clo <| And.intro @invOf_ifc <| And.intro @invOf_ifa <| And.intro @invRow_some <| And.intro @invRecv_self <| And.intro @invRecv_ptr <| And.intro @invRecv_rp <| And.intro @rvl_mkfn <| And.intro @rvl_mkIfc <| And.intro @mkIfcV_agg <| And.intro @mkIfcV_ptr <| And.intro @mkIfcV_rp <| And.intro @mkIfcV_int <| And.intro @mkIfcV_str <| And.intro @mkIfcV_own <| And.intro @mkIfcV_sl <| And.intro @rvl_asrt <| And.intro @asrtV_ifc <| And.intro @asrtV_ifa <| And.intro @rvl_eqS <| And.intro @eqsV_agg <| And.intro @eqC_nil <| And.intro @eqC_i <| And.intro @eqC_b <| And.intro @rvl_copy <| And.intro @copyV_own <| And.intro @copyO_arr <| And.intro @callV_p <| And.intro @app_p <| @spec_wp)

end Go.Proofs.Ytaopaongpoecoaa
