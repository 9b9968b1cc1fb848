import PyProof.Rows.All
import Wide.All
import OpenK.AllK
import Wide.FinOn
import HandS.ForMost
import HandS.ForExc
import HandS.Walk
import HandS.TryMany
import HandS.IsInst
import HandS.Style
import HandS.StrMore
import HandS.TupAny
import HandS.HeadHook1
import HandS.Flow
import HandS.Replace
import HandS.SortRule
import HandS.WordsExc
import HandS.WordsDict
import HandS.More
import HandS.Small
import HandS.Sort
import HandS.Zip
import KE.GoesMore
import KE.KTupSum
import HandS.Comp
import PyProof.StrOps
import HandS.Strs
import PyProof.Rows.SortShellAny
import PyProof.ListStr
import PyProof.P3In
import HandS.Text
import KE.GoesComp
import HandS.TupMul
import KE.GoesZip
import KE.KItemsList
import HandS.Conv
import HandS.ExcIs
import KE.KStateDown
import HandS.Head0
import HandS.Head1
import HandS.Head2
import HandS.HeadEnd
import HandS.HeadHook2
import PySem.Challenge.RW_frontcut_k12_refusals_stand_apart
set_option Elab.async false
set_option linter.all false
set_option maxRecDepth 100000
set_option autoImplicit false
set_option maxHeartbeats 4000000
namespace DL
open PySem PySem.Spec L2
/-! ## the head's facts, and one Bool more -/
abbrev AlL : Type := He.Al × Bool
def obsL (n : Nat) (fa : List He.Fa) (fn : List He.FnD) (ex : PySem.W.Frag → Bool) (g : Addr → Option Obj) : AlL := (He.obsE fa fn (He.frG g (He.asG g n)), ex (He.frG g (He.asG g n)))
def hookL (n : Nat) (fa : List He.Fa) (fn : List He.FnD) (ex : PySem.W.Frag → Bool) : PySem.W.Hook where
  α := AlL
  obs := fun s => obsL n fa fn ex s.heap.get?
  val := fun _ => (He.valE fn, true)
  says := fun _ h => ∃ K : PySem.W.Frag, K.In h ∧ He.SaysE fa fn K ∧ ex K = true
  of := fun _ s e => ⟨_, He.frG_in, congrArg Prod.fst e, congrArg Prod.snd e⟩
  keeps := fun _ _ _ ⟨K, hK, c, d⟩ k => ⟨K, PySem.W.Frag.In.keeps hK k, c, d⟩
theorem obsL_eq {n : Nat} {fa : List He.Fa} {fn : List He.FnD} {ex : PySem.W.Frag → Bool} {g : Addr → Option Obj} {s : Shared} (h : ∀ a, g a = s.heap.get? a) : obsL n fa fn ex g = (hookL n fa fn ex).obs s := by
  have e : g = s.heap.get? := funext h
  rw [e] <;> rfl
def noList (K : PySem.W.Frag) : Bool := K.all fun p => !(match p.2.cls with | .type "list" => true | _ => false)
/-- a global that is a tuple of texts -/
def strsAre : List Value → List Str → Bool
  | [], [] => true
  | .str y _ :: r, z :: t => decide (y = z) && strsAre r t
  | _, _ => false
def tupStr (x : Str) (zs : List Str) (K : PySem.W.Frag) : Bool := match K.lookup (He.ga K x) with
  | some o => (match o.cls, o.data with
    | .type "tuple", .seq its _ => decide (its.size ≤ sizeLine) && strsAre its.toList zs
    | _, _ => false)
  | none => false
/-- what isinstance asks of exceptions' classes -/
def excIs (K : PySem.W.Frag) (x : Str) : Bool :=
  He.eqO (PySem.W.findIn K (.ref (He.ga K x)) "__getattribute__") (some (some (.builtin "BaseException.__getattribute__"))) && (He.eqO (PySem.W.findIn K (.ref (He.ga K x)) "__getattr__") (some none) &&
  (decide (PySem.W.subIn K (.ref (He.ga K x)) (.type "BaseException") = some true) && (PySem.W.hasDictIn K (He.ga K x) && (He.eqO (PySem.W.findIn K (.ref (He.ga K x)) "__class__") (some (some (.builtin "object.__class__"))) &&
  (He.eqO (PySem.W.specialIn K (.builtin "object.__class__") "__get__") (some (some (.builtin "getset_descriptor.__get__"))) && (decide (PySem.W.takesIn K (.builtin "object.__class__") = some true) && decide (PySem.W.mroIn K (He.ga K x) (.type "object") = some true)))))))
def kitIs (K : PySem.W.Frag) (x y : Str) (b : Bool) : Bool := decide (PySem.W.kitOne K (.ref (He.ga K x)) (.ref (He.ga K y)) = some b)
def kitVe (K : PySem.W.Frag) (x : Str) : Bool := decide (PySem.W.kitOne K (.ref (He.ga K x)) (.type "ValueError") = some true)
def exI (cs : List (Str × List Str)) (hs : List Str) (K : PySem.W.Frag) : Bool := cs.all fun p => excIs K p.1 && (kitVe K p.1 && hs.all fun h => kitIs K p.1 h (p.2.contains h))
def topS (i : Nat) : Stmt := PySem.Challenge.pw_frontcut_k12_refusals_stand_apart.main.body.getD i (.Pass ⟨0, 0, 0, 0⟩)
abbrev s__law_cell : Stmt := topS 47
abbrev s_is_within : Stmt := topS 14
abbrev s_is_word : Stmt := topS 15
abbrev s_is_rules : Stmt := topS 16
abbrev s_look : Stmt := topS 17
abbrev s_shown : Stmt := topS 27
abbrev s_is_row : Stmt := topS 18
abbrev s_look_row : Stmt := topS 19
abbrev s_word_of : Stmt := topS 20
abbrev s_has_ended : Stmt := topS 21
abbrev s_times_of : Stmt := topS 36
abbrev s_told_of : Stmt := topS 32
abbrev s_is_whole : Stmt := topS 31
abbrev s_share : Stmt := topS 37
abbrev s_part_of : Stmt := topS 39
abbrev s_next_of : Stmt := topS 22
abbrev s_fate_of : Stmt := topS 43
abbrev s_fate : Stmt := topS 44
abbrev s_after : Stmt := topS 24
abbrev s_image : Stmt := topS 33
abbrev s_next_row : Stmt := topS 23
abbrev s_ahead_of : Stmt := topS 25
abbrev s_leading : Stmt := topS 45
abbrev s_word_read : Stmt := topS 28
abbrev s_read : Stmt := topS 29
abbrev s__law_deeds_of : Stmt := topS 49
abbrev s__law_kinds_of : Stmt := topS 48
abbrev s_grows_by : Stmt := topS 38
abbrev s_root_of : Stmt := topS 34
abbrev s_root : Stmt := topS 35
abbrev s_law : Stmt := topS 50
/-! ## the head -/
def d__law_cell : He.FnD := ⟨("_law_cell", none), "_law_cell", "_law_cell", defArgs s__law_cell, defBody s__law_cell, defScope s__law_cell⟩
def d_is_within : He.FnD := ⟨("is_within", none), "is_within", "is_within", defArgs s_is_within, defBody s_is_within, defScope s_is_within⟩
def d_is_word : He.FnD := ⟨("is_word", none), "is_word", "is_word", defArgs s_is_word, defBody s_is_word, defScope s_is_word⟩
def d_is_rules : He.FnD := ⟨("is_rules", none), "is_rules", "is_rules", defArgs s_is_rules, defBody s_is_rules, defScope s_is_rules⟩
def d_look : He.FnD := ⟨("look", none), "look", "look", defArgs s_look, defBody s_look, defScope s_look⟩
def d_shown : He.FnD := ⟨("shown", none), "shown", "shown", defArgs s_shown, defBody s_shown, defScope s_shown⟩
def d_is_row : He.FnD := ⟨("is_row", none), "is_row", "is_row", defArgs s_is_row, defBody s_is_row, defScope s_is_row⟩
def d_look_row : He.FnD := ⟨("look_row", none), "look_row", "look_row", defArgs s_look_row, defBody s_look_row, defScope s_look_row⟩
def d_word_of : He.FnD := ⟨("word_of", none), "word_of", "word_of", defArgs s_word_of, defBody s_word_of, defScope s_word_of⟩
def d_has_ended : He.FnD := ⟨("has_ended", none), "has_ended", "has_ended", defArgs s_has_ended, defBody s_has_ended, defScope s_has_ended⟩
def d_times_of : He.FnD := ⟨("times_of", none), "times_of", "times_of", defArgs s_times_of, defBody s_times_of, defScope s_times_of⟩
def d_told_of : He.FnD := ⟨("told_of", none), "told_of", "told_of", defArgs s_told_of, defBody s_told_of, defScope s_told_of⟩
def d_is_whole : He.FnD := ⟨("is_whole", none), "is_whole", "is_whole", defArgs s_is_whole, defBody s_is_whole, defScope s_is_whole⟩
def d_share : He.FnD := ⟨("share", none), "share", "share", defArgs s_share, defBody s_share, defScope s_share⟩
def d_part_of : He.FnD := ⟨("part_of", none), "part_of", "part_of", defArgs s_part_of, defBody s_part_of, defScope s_part_of⟩
def d_next_of : He.FnD := ⟨("next_of", none), "next_of", "next_of", defArgs s_next_of, defBody s_next_of, defScope s_next_of⟩
def d_fate_of : He.FnD := ⟨("fate_of", none), "fate_of", "fate_of", defArgs s_fate_of, defBody s_fate_of, defScope s_fate_of⟩
def d_fate : He.FnD := ⟨("fate", none), "fate", "fate", defArgs s_fate, defBody s_fate, defScope s_fate⟩
def d_after : He.FnD := ⟨("after", none), "after", "after", defArgs s_after, defBody s_after, defScope s_after⟩
def d_image : He.FnD := ⟨("image", none), "image", "image", defArgs s_image, defBody s_image, defScope s_image⟩
def d_next_row : He.FnD := ⟨("next_row", none), "next_row", "next_row", defArgs s_next_row, defBody s_next_row, defScope s_next_row⟩
def d_ahead_of : He.FnD := ⟨("ahead_of", none), "ahead_of", "ahead_of", defArgs s_ahead_of, defBody s_ahead_of, defScope s_ahead_of⟩
def d_leading : He.FnD := ⟨("leading", none), "leading", "leading", defArgs s_leading, defBody s_leading, defScope s_leading⟩
def d_word_read : He.FnD := ⟨("word_read", none), "word_read", "word_read", defArgs s_word_read, defBody s_word_read, defScope s_word_read⟩
def d_read : He.FnD := ⟨("read", none), "read", "read", defArgs s_read, defBody s_read, defScope s_read⟩
def d__law_deeds_of : He.FnD := ⟨("_law_deeds_of", none), "_law_deeds_of", "_law_deeds_of", defArgs s__law_deeds_of, defBody s__law_deeds_of, defScope s__law_deeds_of⟩
def d__law_kinds_of : He.FnD := ⟨("_law_kinds_of", none), "_law_kinds_of", "_law_kinds_of", defArgs s__law_kinds_of, defBody s__law_kinds_of, defScope s__law_kinds_of⟩
def d_grows_by : He.FnD := ⟨("grows_by", none), "grows_by", "grows_by", defArgs s_grows_by, defBody s_grows_by, defScope s_grows_by⟩
def d_root_of : He.FnD := ⟨("root_of", none), "root_of", "root_of", defArgs s_root_of, defBody s_root_of, defScope s_root_of⟩
def d_root : He.FnD := ⟨("root", none), "root", "root", defArgs s_root, defBody s_root, defScope s_root⟩
def d_law : He.FnD := ⟨("law", none), "law", "law", defArgs s_law, defBody s_law, defScope s_law⟩
def fns_0 : List He.FnD := [d__law_cell, d_is_within, d_is_word, d_is_rules, d_look, d_shown, d_is_row, d_look_row, d_word_of, d_has_ended, d_times_of, d_told_of, d_is_whole, d_share, d_part_of, d_next_of, d_fate_of, d_fate, d_after, d_image, d_next_row, d_ahead_of, d_leading, d_word_read, d_read, d__law_deeds_of, d__law_kinds_of, d_grows_by, d_root_of, d_root]
def fns_1 : List He.FnD := [d_law]
def fns : List He.FnD := fns_0 ++ fns_1
def facts_0 : List He.Fa := [.free "len", .free "isinstance", .free "int", .free "str", .free "bool", .free "list", .free "tuple", .free "dict", .free "set", .free "range", .free "enumerate", .free "zip", .free "sorted", .free "min", .free "max", .free "sum", .str "LETTERS" "abc", .int "MOST_CUT" 3, .int "MOST_WORD" 4, .int "MOST_ROW" 24, .int "MOST_CUTS" 200, .int "MOST_LONG" 120, .glo "BadRules", .exc "BadRules", .glo "BadRow", .exc "BadRow", .glo "BadCount", .exc "BadCount", .glo "Ended", .exc "Ended"]
def facts_1 : List He.Fa := [.glo "BadWord", .exc "BadWord", .glo "TooMany", .exc "TooMany", .glo "BadText", .exc "BadText", .glo "CutError", .exc "CutError", .exm "BadRules" "CutError" true, .exm "BadRow" "CutError" true, .exm "BadCount" "CutError" true, .exm "Ended" "CutError" true, .exm "BadWord" "CutError" true, .exm "TooMany" "CutError" true, .exm "BadText" "CutError" true, .free "ValueError", .glo "_law_cell", .keep "_law_cell", .glo "is_within", .keep "is_within", .glo "is_word", .keep "is_word", .glo "is_rules", .keep "is_rules", .glo "look", .keep "look", .glo "shown", .keep "shown", .glo "is_row", .keep "is_row"]
def facts_2 : List He.Fa := [.glo "look_row", .keep "look_row", .glo "word_of", .keep "word_of", .glo "has_ended", .keep "has_ended", .glo "times_of", .keep "times_of", .glo "told_of", .keep "told_of", .glo "is_whole", .keep "is_whole", .glo "share", .keep "share", .glo "part_of", .keep "part_of", .glo "next_of", .keep "next_of", .glo "fate_of", .keep "fate_of", .glo "fate", .keep "fate", .glo "after", .keep "after", .glo "image", .keep "image", .glo "next_row", .keep "next_row", .glo "ahead_of", .keep "ahead_of"]
def facts_3 : List He.Fa := [.glo "leading", .keep "leading", .glo "word_read", .keep "word_read", .glo "read", .keep "read", .glo "_law_deeds_of", .keep "_law_deeds_of", .glo "_law_kinds_of", .keep "_law_kinds_of", .glo "grows_by", .keep "grows_by", .glo "root_of", .keep "root_of", .glo "root", .keep "root", .glo "law", .keep "law"]
def facts : List He.Fa := facts_0 ++ facts_1 ++ facts_2 ++ facts_3
def looseN_0 : List Str := ["CutError", "BadRules", "BadRow", "BadCount", "BadWord", "Ended", "TooMany", "BadText", "LETTERS", "MOST_CUT", "MOST_WORD", "MOST_ROW", "is_within", "is_word", "is_rules", "look", "is_row", "look_row", "word_of", "has_ended", "next_of", "next_row", "after", "ahead_of", "shown", "word_read", "read", "is_whole", "told_of", "image"]
def looseN_1 : List Str := ["root_of", "root", "times_of", "share", "grows_by", "part_of", "MOST_CUTS", "MOST_LONG", "fate_of", "fate", "leading", "_law_cell", "_law_kinds_of", "_law_deeds_of"]
def looseN : List Str := looseN_0 ++ looseN_1
abbrev Rw : PySem.W.OpenRow := PySem.W.OpenLaw.row PySem.Challenge.rw_frontcut_k12_refusals_stand_apart
def exK (K : PySem.W.Frag) : Bool := noList K && exI [("BadRules", ["BadRules", "CutError", "ValueError"]), ("BadRow", ["BadRow", "CutError", "ValueError"]), ("BadCount", ["BadCount", "CutError", "ValueError"]), ("Ended", ["Ended", "CutError", "ValueError"]), ("BadWord", ["BadWord", "CutError", "ValueError"]), ("TooMany", ["TooMany", "CutError", "ValueError"]), ("BadText", ["BadText", "CutError", "ValueError"])] ["BadWord", "BadCount", "BadRow", "BadRules", "BadText", "TooMany", "Ended"] K
abbrev hk : PySem.W.Hook := hookL 4 facts fns exK
def ob (s : PySem.W.SharedT) : AlL := obsL 4 facts fns exK (HandSHeadRun.getT s)
theorem ob_eq (s : PySem.W.SharedT) : ob s = hk.obs s.abs := obsL_eq (HandSHeadRun.getT_eq s)
theorem run (w : World) : HandSHeadRun.RunEq Rw (PySem.W.view Rw.prog [50]) hk ob 6000 looseN w := by
  intro os
  kernel_rfl
theorem exK_x {K : PySem.W.Frag} (h : exK K = true) : exI [("BadRules", ["BadRules", "CutError", "ValueError"]), ("BadRow", ["BadRow", "CutError", "ValueError"]), ("BadCount", ["BadCount", "CutError", "ValueError"]), ("Ended", ["Ended", "CutError", "ValueError"]), ("BadWord", ["BadWord", "CutError", "ValueError"]), ("TooMany", ["TooMany", "CutError", "ValueError"]), ("BadText", ["BadText", "CutError", "ValueError"])] ["BadWord", "BadCount", "BadRow", "BadRules", "BadText", "TooMany", "Ended"] K = true := (Bool.and_eq_true_iff.mp h).2
theorem exK_nl {K : PySem.W.Frag} (h : exK K = true) : noList K = true := (Bool.and_eq_true_iff.mp h).1
end DL
namespace DL
open PySem PySem.Spec L2

/-! ## pure data and how values stand for it -/
abbrev D := PyData
/-- a text that the model's own comparisons take: not too long, its signs codes -/
structure SOk (x : Str) : Prop where
  len : x.length ≤ sizeLine
  ok : PyData.strOk x = true
theorem strOk_iff {x : Str} : PyData.strOk x = true ↔ ∀ c ∈ x.cps.toList, c < 0x110000 := by
  unfold PyData.strOk
  rw [← Array.all_toList, List.all_eq_true]
  simp
theorem SOk.dec {x : Str} (h : (decide (x.length ≤ sizeLine) && PyData.strOk x) = true) : SOk x := by
  rw [Bool.and_eq_true] at h
  exact ⟨of_decide_eq_true h.1, h.2⟩
theorem str_length (x : Str) : x.length = x.cps.toList.length := by
  show x.cps.size = _
  rw [Array.length_toList]
theorem append_cps (a b : Str) : (a ++ b).cps.toList = a.cps.toList ++ b.cps.toList := by
  show (a.cps ++ b.cps).toList = _
  rw [Array.toList_append]
theorem append_len (a b : Str) : (a ++ b).length = a.length + b.length := by
  rw [str_length, append_cps, List.length_append, str_length, str_length]
theorem SOk.append {a b : Str} (ha : SOk a) (hb : SOk b) (h : a.length + b.length ≤ sizeLine) : SOk (a ++ b) := by
  refine ⟨by rw [append_len]; exact h, strOk_iff.mpr fun c hc => ?_⟩
  rw [append_cps, List.mem_append] at hc
  rcases hc with hc | hc
  · exact strOk_iff.mp ha.ok c hc
  · exact strOk_iff.mp hb.ok c hc
/-- of signs of a text -/
theorem SOk.sub {a : Str} {l : List Nat} (ha : SOk a) (hl : l.length ≤ sizeLine) (h : ∀ c ∈ l, c ∈ a.cps.toList) : SOk ⟨l.toArray⟩ :=
  ⟨by show l.toArray.size ≤ _; rw [List.size_toArray]; exact hl, strOk_iff.mpr fun c hc => strOk_iff.mp ha.ok c (h c (by simpa using hc))⟩
mutual
inductive Rp (K : PySem.W.Frag) (F : Hp) : V → D → Prop
  | non : Rp K F .non .none
  | bl (b : Bool) : Rp K F (.bl b) (.bool b)
  | int (i : Int) : Rp K F (.int i) (.int i)
  | str (x : Str) (h : SOk x) : Rp K F (.str x) (.str x)
  | lst {a : Addr} {xs : List V} {ds : List D} : Rd F a (.lst xs) → RpAll K F xs ds → Rp K F (.ref a) (.list ds)
  | tup {a : Addr} {xs : List V} {ds : List D} : SqT K F a xs → RpAll K F xs ds → Rp K F (.ref a) (.tuple ds)
inductive RpAll (K : PySem.W.Frag) (F : Hp) : List V → List D → Prop
  | nil : RpAll K F [] []
  | cons {v : V} {vs : List V} {d : D} {ds : List D} : Rp K F v d → RpAll K F vs ds → RpAll K F (v :: vs) (d :: ds)
end
theorem same_rd {F F' : Hp} (s : Same F F') {a : Addr} {u : HO} (h : Rd F a u) : Rd F' a u := by
  rcases h with h | ⟨o, h⟩
  · exact .inl (s _ _ h)
  · exact .inr ⟨o, s _ _ h⟩
theorem same_sqT {K : PySem.W.Frag} {F F' : Hp} (s : Same F F') {a : Addr} {xs : List V} (h : SqT K F a xs) : SqT K F' a xs := by
  rcases h with h | h
  · exact .inl (same_rd s h)
  · exact .inr h
mutual
theorem Rp.mono {K : PySem.W.Frag} {F F' : Hp} (s : Same F F') : ∀ {v : V} {d : D}, Rp K F v d → Rp K F' v d
  | _, _, .non => .non
  | _, _, .bl b => .bl b
  | _, _, .int i => .int i
  | _, _, .str x h => .str x h
  | _, _, .lst h t => .lst (same_rd s h) (RpAll.mono s t)
  | _, _, .tup h t => .tup (same_sqT s h) (RpAll.mono s t)
theorem RpAll.mono {K : PySem.W.Frag} {F F' : Hp} (s : Same F F') : ∀ {v : List V} {d : List D}, RpAll K F v d → RpAll K F' v d
  | _, _, .nil => .nil
  | _, _, .cons a b => .cons (Rp.mono s a) (RpAll.mono s b)
end
mutual
theorem Rp.dp {K : PySem.W.Frag} {F : Hp} : ∀ {v : V} {d : D}, Rp K F v d → Dp K F v d
  | _, _, .non => .non
  | _, _, .bl b => .bl b
  | _, _, .int i => .int i
  | _, _, .str x _ => .str x
  | _, _, .lst h t => .lst (.inl h) (RpAll.dp t)
  | _, _, .tup h t => .tup h (RpAll.dp t)
theorem RpAll.dp {K : PySem.W.Frag} {F : Hp} : ∀ {v : List V} {d : List D}, RpAll K F v d → DpAll K F v d
  | _, _, .nil => .nil
  | _, _, .cons a b => .cons (Rp.dp a) (RpAll.dp b)
end
section
variable {K : PySem.W.Frag} {F : Hp}
theorem RpAll.length : ∀ {vs : List V} {ds : List D}, RpAll K F vs ds → vs.length = ds.length
  | _, _, .nil => rfl
  | _, _, .cons _ b => by simp [RpAll.length b]
theorem RpAll.get : ∀ {vs : List V} {ds : List D} {i : Nat} {d : D}, RpAll K F vs ds → ds[i]? = some d → ∃ v, vs[i]? = some v ∧ Rp K F v d
  | _, _, _, _, .nil, e => by simp at e
  | _, _, 0, _, .cons a _, e => by simp at e; subst e; exact ⟨_, rfl, a⟩
  | _, _, i + 1, _, .cons _ b, e => by
    obtain ⟨v, h1, h2⟩ := RpAll.get (i := i) b (by simpa using e)
    exact ⟨v, by simpa using h1, h2⟩
theorem RpAll.getV : ∀ {vs : List V} {ds : List D} {i : Nat} {v : V}, RpAll K F vs ds → vs[i]? = some v → ∃ d, ds[i]? = some d ∧ Rp K F v d
  | _, _, _, _, .nil, e => by simp at e
  | _, _, 0, _, .cons a _, e => by simp at e; subst e; exact ⟨_, rfl, a⟩
  | _, _, i + 1, _, .cons _ b, e => by
    obtain ⟨v, h1, h2⟩ := RpAll.getV (i := i) b (by simpa using e)
    exact ⟨v, by simpa using h1, h2⟩
theorem RpAll.append : ∀ {xs ys : List V} {ds es : List D}, RpAll K F xs ds → RpAll K F ys es → RpAll K F (xs ++ ys) (ds ++ es)
  | _, _, _, _, .nil, s => s
  | _, _, _, _, .cons r t, s => .cons r (RpAll.append t s)
theorem RpAll.take : ∀ {xs : List V} {ds : List D} (n : Nat), RpAll K F xs ds → RpAll K F (xs.take n) (ds.take n)
  | _, _, 0, _ => .nil
  | _, _, _ + 1, .nil => .nil
  | _, _, n + 1, .cons r t => .cons r (RpAll.take n t)
theorem RpAll.drop : ∀ {xs : List V} {ds : List D} (n : Nat), RpAll K F xs ds → RpAll K F (xs.drop n) (ds.drop n)
  | _, _, 0, r => r
  | _, _, _ + 1, .nil => .nil
  | _, _, n + 1, .cons _ t => RpAll.drop n t
theorem RpAll.set {v : V} {d : D} (r : Rp K F v d) : ∀ {xs : List V} {ds : List D} (n : Nat), RpAll K F xs ds → RpAll K F (xs.set n v) (ds.set n d)
  | _, _, _, .nil => .nil
  | _, _, 0, .cons _ t => .cons r t
  | _, _, n + 1, .cons q t => .cons q (RpAll.set r n t)
theorem RpAll.reverse : ∀ {xs : List V} {ds : List D}, RpAll K F xs ds → RpAll K F xs.reverse ds.reverse
  | _, _, .nil => .nil
  | _, _, .cons r t => by
    rw [List.reverse_cons, List.reverse_cons]
    exact RpAll.append (RpAll.reverse t) (.cons r .nil)
theorem RpAll.rep {xs : List V} {ds : List D} (h : RpAll K F xs ds) : ∀ k : Nat, RpAll K F (List.replicate k xs).flatten (List.replicate k ds).flatten
  | 0 => .nil
  | k + 1 => by
    rw [List.replicate_succ, List.replicate_succ, List.flatten_cons, List.flatten_cons]
    exact RpAll.append h (RpAll.rep h k)
theorem RpAll.ints : ∀ ns : List Int, RpAll K F (ns.map V.int) (ns.map PyData.int)
  | [] => .nil
  | n :: r => .cons (.int n) (RpAll.ints r)
theorem RpAll.strs : ∀ ns : List Str, (∀ x ∈ ns, SOk x) → RpAll K F (ns.map V.str) (ns.map PyData.str)
  | [], _ => .nil
  | n :: r, h => .cons (.str n (h n List.mem_cons_self)) (RpAll.strs r fun x hx => h x (List.mem_cons_of_mem _ hx))
theorem Rp.sok {v : V} {i : Str} (h : Rp K F v (.str i)) : SOk i := by cases h; assumption
theorem RpAll.sok : ∀ {ns : List Str} {vs : List V}, RpAll K F vs (ns.map PyData.str) → ∀ x ∈ ns, SOk x
  | [], _, .nil, x, hx => nomatch hx
  | _ :: _, _, .cons a b, x, hx => by
    rcases List.mem_cons.mp hx with e | hx
    · subst e; exact a.sok
    · exact RpAll.sok b x hx
mutual
theorem Rp.lay : ∀ {v : V} {d : D}, Rp K F v d → d.canLay0 = true
  | _, _, .non => rfl
  | _, _, .bl _ => rfl
  | _, _, .int _ => rfl
  | _, _, .str x h => h.ok
  | _, _, .lst _ t => RpAll.lay t
  | _, _, .tup _ t => RpAll.lay t
theorem RpAll.lay : ∀ {v : List V} {d : List D}, RpAll K F v d → PyData.canLayAll0 d = true
  | _, _, .nil => rfl
  | _, _, .cons a b => by
    show (PyData.canLay0 _ && PyData.canLayAll0 _) = true
    rw [Rp.lay a, RpAll.lay b]; rfl
end
theorem Rp.inj_int {v : V} {i : Int} (h : Rp K F v (.int i)) : v = .int i := by cases h; rfl
theorem Rp.inj_str {v : V} {i : Str} (h : Rp K F v (.str i)) : v = .str i := by cases h; rfl
theorem Rp.inj_bool {v : V} {i : Bool} (h : Rp K F v (.bool i)) : v = .bl i := by cases h; rfl
theorem Rp.inj_none {v : V} (h : Rp K F v .none) : v = .non := by cases h; rfl
theorem RpAll.inj_ints : ∀ {ns : List Int} {vs : List V}, RpAll K F vs (ns.map PyData.int) → vs = ns.map V.int
  | [], _, .nil => rfl
  | _ :: _, _, .cons a b => by rw [Rp.inj_int a, RpAll.inj_ints b]; rfl
theorem RpAll.inj_strs : ∀ {ns : List Str} {vs : List V}, RpAll K F vs (ns.map PyData.str) → vs = ns.map V.str
  | [], _, .nil => rfl
  | _ :: _, _, .cons a b => by rw [Rp.inj_str a, RpAll.inj_strs b]; rfl
end

/-! ## results, environments -/
inductive Rs (α : Type) where
  | ok (a : α)
  | ex (c : Str)
  | bad
def Rs.bind {α β : Type} (r : Rs α) (f : α → Rs β) : Rs β := match r with
  | .ok a => f a
  | .ex c => .ex c
  | .bad => .bad
def Rs.of {α : Type} : Option α → Rs α
  | some a => .ok a
  | none => .bad
inductive LV where
  | fz (d : D)
  | own (ds : List D)
  | ownd (kvs : List (Key × D))
  /-- a reference -/
  | hd (a : Addr)
  /-- a list that the caller owns -/
  | lent (a : Addr) (ds : List D)
  /-- a walker, changed here -/
  | obj (t : Option Addr) (r : D) (rows deeds : List D)
  /-- a walker that is only read -/
  | fobj (r : D) (rows deeds : List D)
def LV.isOwn : LV → Bool
  | .fz _ => false
  | .hd _ => false
  | .fobj _ _ _ => false
  | _ => true
/-- things of one address -/
def LV.one : LV → Bool
  | .own _ => true
  | .ownd _ => true
  | .lent _ _ => true
  | _ => false
abbrev En := List (Option LV)
abbrev DEx := En → Rs D

def KvOk (K : PySem.W.Frag) (F : Hp) : List (Key × V) → List (Key × D) → Prop := Paired fun p q => p.1 = q.1 ∧ Rp K F p.2 q.2
/-- the fields of a walker -/
def wF (vr : V) (pr pd : Addr) : List (Str × V) := [("rules", vr), ("rows", .ref pr), ("deeds", .ref pd)]
def LvOk (K : PySem.W.Frag) (F H : Hp) : LV → V → Prop
  | .fz d, v => Rp K F v d
  | .own ds, v => ∃ p xs, v = .ref p ∧ H p = some (.lst xs) ∧ F p = none ∧ RpAll K F xs ds
  | .ownd kvs, v => ∃ p us, v = .ref p ∧ H p = some (.dK us) ∧ F p = none ∧ KvOk K F us kvs
  | .hd a, v => v = .ref a
  | .lent a ds, v => ∃ p xs, v = .ref p ∧ H p = some (.lst xs) ∧ F p = none ∧ RpAll K F xs ds ∧ a = p
  | .obj t r rows deeds, v => ∃ p dx vr pr pd xs ys, v = .ref p ∧ (∀ a, t = some a → a = p) ∧ H p = some (.ins (He.ga K "Walker") dx (wF vr pr pd)) ∧ H pr = some (.lst xs) ∧ H pd = some (.lst ys) ∧
      F p = none ∧ F pr = none ∧ F pd = none ∧ pr ≠ pd ∧ Rp K F vr r ∧ RpAll K F xs rows ∧ RpAll K F ys deeds
  | .fobj r rows deeds, v => ∃ p dx vr pr pd, v = .ref p ∧ F p = some (.ins (He.ga K "Walker") dx (wF vr pr pd)) ∧ Rp K F vr r ∧ Rp K F (.ref pr) (.list rows) ∧ Rp K F (.ref pd) (.list deeds)
/-- the addresses that are changed by changing what a slot owns -/
def Ft (H : Hp) : LV → V → Addr → Prop
  | .own _, v, a => v = .ref a
  | .ownd _, v, a => v = .ref a
  | .lent _ _, v, a => v = .ref a
  | .obj _ _ _ _, v, a => ∃ p, v = .ref p ∧ (a = p ∨ ∃ C dx vr pr pd, H p = some (.ins C dx (wF vr pr pd)) ∧ (a = pr ∨ a = pd))
  | _, _, _ => False
theorem Ft.own {H : Hp} {x : LV} {v : V} {a : Addr} (h : Ft H x v a) : x.isOwn = true := by cases x <;> first | rfl | exact h.elim
theorem Ft.one {H : Hp} {x : LV} {v : V} {a : Addr} (o : x.one = true) : Ft H x v a ↔ v = .ref a := by
  cases x <;> first | exact Iff.rfl | cases o
theorem wF_inj {vr vr' : V} {pr pr' pd pd' : Addr} (h : wF vr pr pd = wF vr' pr' pd') : vr = vr' ∧ pr = pr' ∧ pd = pd' := by
  unfold wF at h
  simp only [List.cons.injEq, Prod.mk.injEq, V.ref.injEq, true_and, and_true] at h
  exact ⟨h.1, h.2.1, h.2.2⟩
theorem KvOk.mono {K : PySem.W.Frag} {F F' : Hp} (s : Same F F') {us : List (Key × V)} {kvs : List (Key × D)} (h : KvOk K F us kvs) : KvOk K F' us kvs :=
  Paired.mapP h fun _ _ x => ⟨x.1, x.2.mono s⟩

structure Grow (F H F' H' : Hp) : Prop where
  f : Same F F'
  h : Same H H'
  sub : Same F' H'
  new : ∀ p o, H p = some o → F p = none → F' p = none
  nz : ∀ p o u, F' p = some (.frz o u) → F p = some (.frz o u)
theorem Grow.refl {F H : Hp} (s : Same F H) : Grow F H F H := ⟨Same.refl F, Same.refl H, s, fun _ _ _ h => h, fun _ _ _ h => h⟩
theorem Grow.trans {F H F1 H1 F2 H2 : Hp} (a : Grow F H F1 H1) (b : Grow F1 H1 F2 H2) : Grow F H F2 H2 :=
  ⟨a.f.trans b.f, a.h.trans b.h, b.sub, fun p o h n => b.new p o (a.h _ _ h) (a.new p o h n), fun p o u h => a.nz p o u (b.nz p o u h)⟩
theorem same_upd {H : Hp} {p : Addr} {o : HO} (n : H p = none) : Same H (upd H p o) := fun b u e => by
  rw [upd_ne (ne_of_none e n)]; exact e
theorem same_upd2 {F H : Hp} {p : Addr} {o : HO} (s : Same F H) : Same (upd F p o) (upd H p o) := fun b u e => by
  by_cases hb : b = p
  · subst hb; rw [upd_same] at e ⊢; exact e
  · rw [upd_ne hb] at e ⊢; exact s _ _ e
/-- a new object, frozen at once -/
theorem nz_upd {F : Hp} {p : Addr} {o : HO} (z : ∀ o' u, o ≠ .frz o' u) : ∀ q o' u, upd F p o q = some (.frz o' u) → F q = some (.frz o' u) := fun q o' u e => by
  by_cases hb : q = p
  · subst hb; rw [upd_same] at e; exact absurd (Option.some.inj e) (z o' u)
  · rw [upd_ne hb] at e; exact e
theorem Grow.laid {F H : Hp} {p : Addr} {o : HO} (s : Same F H) (n : H p = none) (z : ∀ o' u, o ≠ .frz o' u := by intro _ _ h; cases h) : Grow F H (upd F p o) (upd H p o) :=
  ⟨same_upd (s.free n), same_upd n, same_upd2 s, fun q u h f => by rw [upd_ne (ne_of_none h n)]; exact f, nz_upd z⟩
/-- a new object, not frozen -/
theorem Grow.open {F H : Hp} {p : Addr} {o : HO} (s : Same F H) (n : H p = none) : Grow F H F (upd H p o) :=
  ⟨Same.refl F, same_upd n, s.trans (same_upd n), fun _ _ _ f => f, fun _ _ _ h => h⟩
theorem Grow.mid {F H F' H' : Hp} (g : Grow F H F' H') (s : Same F H) : True := trivial

theorem LvOk.mono {K : PySem.W.Frag} {F H F' H' : Hp} (g : Grow F H F' H') : ∀ {x : LV} {v : V}, LvOk K F H x v → LvOk K F' H' x v
  | .fz _, _, h => Rp.mono g.f h
  | .own _, _, ⟨p, xs, e, h, f, r⟩ => ⟨p, xs, e, g.h _ _ h, g.new p _ h f, r.mono g.f⟩
  | .ownd _, _, ⟨p, xs, e, h, f, r⟩ => ⟨p, xs, e, g.h _ _ h, g.new p _ h f, r.mono g.f⟩
  | .hd _, _, h => h
  | .lent _ _, _, ⟨p, xs, e, h, f, r, q⟩ => ⟨p, xs, e, g.h _ _ h, g.new p _ h f, r.mono g.f, q⟩
  | .obj _ _ _ _, _, ⟨p, dx, vr, pr, pd, xs, ys, e, t, h1, h2, h3, f1, f2, f3, n, r1, r2, r3⟩ =>
    ⟨p, dx, vr, pr, pd, xs, ys, e, t, g.h _ _ h1, g.h _ _ h2, g.h _ _ h3, g.new _ _ h1 f1, g.new _ _ h2 f2, g.new _ _ h3 f3, n, r1.mono g.f, r2.mono g.f, r3.mono g.f⟩
  | .fobj _ _ _, _, ⟨p, dx, vr, pr, pd, e, f, r1, r2, r3⟩ => ⟨p, dx, vr, pr, pd, e, g.f _ _ f, r1.mono g.f, r2.mono g.f, r3.mono g.f⟩
/-- what stands at a footprint -/
theorem LvOk.ft {K : PySem.W.Frag} {F H : Hp} : ∀ {x : LV} {v : V} {a : Addr}, LvOk K F H x v → Ft H x v a → ∃ u, H a = some u ∧ F a = none
  | .fz _, _, _, _, f => f.elim
  | .own _, _, _, ⟨p, xs, e, h, f, r⟩, z => by cases e.symm.trans z; exact ⟨_, h, f⟩
  | .ownd _, _, _, ⟨p, xs, e, h, f, r⟩, z => by cases e.symm.trans z; exact ⟨_, h, f⟩
  | .hd _, _, _, _, f => f.elim
  | .lent _ _, _, _, ⟨p, xs, e, h, f, r, q⟩, z => by cases e.symm.trans z; exact ⟨_, h, f⟩
  | .obj _ _ _ _, _, _, ⟨p, dx, vr, pr, pd, xs, ys, e, t, h1, h2, h3, f1, f2, f3, n, r1, r2, r3⟩, ⟨q, eq, z⟩ => by
    cases e.symm.trans eq
    rcases z with rfl | ⟨C, dx', vr', pr', pd', hh, z⟩
    · exact ⟨_, h1, f1⟩
    · have e1 := h1.symm.trans hh
      simp only [Option.some.injEq, HO.ins.injEq] at e1
      obtain ⟨_, _, e3⟩ := e1
      obtain ⟨_, rfl, rfl⟩ := wF_inj e3
      rcases z with rfl | rfl
      · exact ⟨_, h2, f2⟩
      · exact ⟨_, h3, f3⟩
  | .fobj _ _ _, _, _, _, f => f.elim
/-- a footprint by what LvOk knows -/
theorem LvOk.ft_to {K : PySem.W.Frag} {F H H' : Hp} : ∀ {x : LV} {v : V} {a : Addr}, LvOk K F H x v → (∀ b u, Ft H x v b → H b = some u → H' b = some u) → Ft H' x v a → Ft H x v a
  | .fz _, _, _, _, _, f => f
  | .own _, _, _, _, _, z => z
  | .ownd _, _, _, _, _, z => z
  | .hd _, _, _, _, _, f => f
  | .lent _ _, _, _, _, _, z => z
  | .obj _ _ _ _, _, _, ⟨p, dx, vr, pr, pd, xs, ys, e, t, h1, h2, h3, f1, f2, f3, n, r1, r2, r3⟩, s, ⟨q, eq, z⟩ => by
    cases e.symm.trans eq
    have h1' := s p _ ⟨p, e, .inl rfl⟩ h1
    rcases z with rfl | ⟨C, dx', vr', pr', pd', hh, z⟩
    · exact ⟨_, e, .inl rfl⟩
    · exact ⟨p, e, .inr ⟨_, _, _, _, _, h1.trans (h1'.symm.trans hh), z⟩⟩
  | .fobj _ _ _, _, _, _, _, f => f
theorem LvOk.ft_same {K : PySem.W.Frag} {F H H' : Hp} {x : LV} {v : V} {a : Addr} (h : LvOk K F H x v) (s : Same H H') (z : Ft H' x v a) : Ft H x v a := h.ft_to (fun b u _ e => s b u e) z
/-- what is owned here stands as it did where its own addresses do -/
theorem LvOk.frame {K : PySem.W.Frag} {F H F' H' : Hp} (sf : Same F F') : ∀ {x : LV} {v : V}, LvOk K F H x v → (∀ b u, Ft H x v b → H b = some u → H' b = some u) → (∀ b, Ft H x v b → F' b = none) → LvOk K F' H' x v
  | .fz _, _, h, _, _ => Rp.mono sf h
  | .own _, _, ⟨p, xs, e, h, f, r⟩, s, n => ⟨p, xs, e, s _ _ e h, n _ e, r.mono sf⟩
  | .ownd _, _, ⟨p, xs, e, h, f, r⟩, s, n => ⟨p, xs, e, s _ _ e h, n _ e, r.mono sf⟩
  | .hd _, _, h, _, _ => h
  | .lent _ _, _, ⟨p, xs, e, h, f, r, q⟩, s, n => ⟨p, xs, e, s _ _ e h, n _ e, r.mono sf, q⟩
  | .obj _ _ _ _, _, ⟨p, dx, vr, pr, pd, xs, ys, e, t, h1, h2, h3, f1, f2, f3, n, r1, r2, r3⟩, s, nf =>
    have a1 : Ft H (.obj _ _ _ _) _ p := ⟨p, e, .inl rfl⟩
    have a2 : Ft H (.obj _ _ _ _) _ pr := ⟨p, e, .inr ⟨_, _, _, _, _, h1, .inl rfl⟩⟩
    have a3 : Ft H (.obj _ _ _ _) _ pd := ⟨p, e, .inr ⟨_, _, _, _, _, h1, .inr rfl⟩⟩
    ⟨p, dx, vr, pr, pd, xs, ys, e, t, s _ _ a1 h1, s _ _ a2 h2, s _ _ a3 h3, nf _ a1, nf _ a2, nf _ a3, n, r1.mono sf, r2.mono sf, r3.mono sf⟩
  | .fobj _ _ _, _, ⟨p, dx, vr, pr, pd, e, f, r1, r2, r3⟩, _, _ => ⟨p, dx, vr, pr, pd, e, sf _ _ f, r1.mono sf, r2.mono sf, r3.mono sf⟩

structure Good (K : PySem.W.Frag) (F H : Hp) (σ : St) (ρ : En) : Prop where
  sub : Same F H
  len : σ.length = ρ.length
  at_ : ∀ (i : Nat) x, ρ[i]? = some (some x) → ∃ v, σ[i]? = some (some v) ∧ LvOk K F H x v
  dis : ∀ (i j : Nat) x y v w a, ρ[i]? = some (some x) → ρ[j]? = some (some y) → σ[i]? = some (some v) → σ[j]? = some (some w) → Ft H x v a → Ft H y w a → i ≠ j → False
theorem Good.lv {K : PySem.W.Frag} {F H : Hp} {σ : St} {ρ : En} (G : Good K F H σ ρ) {i : Nat} {x : LV} {v : V} (e : ρ[i]? = some (some x)) (z : σ[i]? = some (some v)) : LvOk K F H x v := by
  obtain ⟨w, h1, h2⟩ := G.at_ i x e
  cases h1.symm.trans z
  exact h2
theorem Good.grow {K : PySem.W.Frag} {F H F' H' : Hp} {σ : St} {ρ : En} (G : Good K F H σ ρ) (g : Grow F H F' H') : Good K F' H' σ ρ :=
  ⟨g.sub, G.len, fun i x e => let ⟨v, h1, h2⟩ := G.at_ i x e; ⟨v, h1, h2.mono g⟩, fun i j x y v w a ei ej si sj f1 f2 => G.dis i j x y v w a ei ej si sj ((G.lv ei si).ft_same g.h f1) ((G.lv ej sj).ft_same g.h f2)⟩

/-! ## readings -/
def OutE (K : PySem.W.Frag) (mg : Str → Option Value) (W : WX) (σ : St) (F H : Hp) (r : Rs D) (Q : VK) : Prop := match r with
  | .ok d => ∀ v F' H', Grow F H F' H' → Rp K F' v d → Q v H'
  | .ex c => ∀ C H', Same H H' → mg c = some (.ref C) → W (.ref C) none σ H'
  | .bad => False
/-- what may be read just now: frozen data, or an owned list of frozen data -/
def Bp (K : PySem.W.Frag) (F H : Hp) (v : V) (d : D) : Prop :=
  Rp K F v d ∨ ∃ p xs ds, v = .ref p ∧ d = .list ds ∧ H p = some (.lst xs) ∧ RpAll K F xs ds
def OutB (K : PySem.W.Frag) (mg : Str → Option Value) (W : WX) (σ : St) (F H : Hp) (r : Rs D) (Q : VK) : Prop := match r with
  | .ok d => ∀ v F' H', Grow F H F' H' → Bp K F' H' v d → Q v H'
  | .ex c => ∀ C H', Same H H' → mg c = some (.ref C) → W (.ref C) none σ H'
  | .bad => False
/-- a new list, not frozen yet -/
def OutN (K : PySem.W.Frag) (mg : Str → Option Value) (W : WX) (σ : St) (F H : Hp) (r : Rs (List D)) (Q : VK) : Prop := match r with
  | .ok ds => ∀ p xs F' H', Grow F H F' H' → H p = none → F' p = none → H' p = some (.lst xs) → RpAll K F' xs ds → Q (.ref p) H'
  | .ex c => ∀ C H', Same H H' → mg c = some (.ref C) → W (.ref C) none σ H'
  | .bad => False
def OutT (K : PySem.W.Frag) (mg : Str → Option Value) (W : WX) (σ : St) (F H : Hp) (r : Rs Bool) (Q : Bool → Hp → Prop) : Prop := match r with
  | .ok b => ∀ F' H', Grow F H F' H' → Q b H'
  | .ex c => ∀ C H', Same H H' → mg c = some (.ref C) → W (.ref C) none σ H'
  | .bad => False
def OutA (K : PySem.W.Frag) (mg : Str → Option Value) (W : WX) (σ : St) (F H : Hp) (r : Rs (List D)) (Q : List V → Hp → Prop) : Prop := match r with
  | .ok ds => ∀ vs F' H', Grow F H F' H' → RpAll K F' vs ds → Q vs H'
  | .ex c => ∀ C H', Same H H' → mg c = some (.ref C) → W (.ref C) none σ H'
  | .bad => False
inductive BpAll (K : PySem.W.Frag) (F H : Hp) : List V → List D → Prop
  | nil : BpAll K F H [] []
  | cons {v : V} {vs : List V} {d : D} {ds : List D} : Bp K F H v d → BpAll K F H vs ds → BpAll K F H (v :: vs) (d :: ds)
def OutAB (K : PySem.W.Frag) (mg : Str → Option Value) (W : WX) (σ : St) (F H : Hp) (r : Rs (List D)) (Q : List V → Hp → Prop) : Prop := match r with
  | .ok ds => ∀ vs F' H', Grow F H F' H' → BpAll K F' H' vs ds → Q vs H'
  | .ex c => ∀ C H', Same H H' → mg c = some (.ref C) → W (.ref C) none σ H'
  | .bad => False
def tE (K : PySem.W.Frag) (mg : Str → Option Value) (W : WX) (f : DEx) : TE := fun σ H Q => ∃ ρ F, Good K F H σ ρ ∧ OutE K mg W σ F H (f ρ) Q
def tB (K : PySem.W.Frag) (mg : Str → Option Value) (W : WX) (f : DEx) : TE := fun σ H Q => ∃ ρ F, Good K F H σ ρ ∧ OutB K mg W σ F H (f ρ) Q
def tN (K : PySem.W.Frag) (mg : Str → Option Value) (W : WX) (f : En → Rs (List D)) : TE := fun σ H Q => ∃ ρ F, Good K F H σ ρ ∧ OutN K mg W σ F H (f ρ) Q
def tT (K : PySem.W.Frag) (mg : Str → Option Value) (W : WX) (f : En → Rs Bool) : TT := fun σ H Q => ∃ ρ F, Good K F H σ ρ ∧ OutT K mg W σ F H (f ρ) Q
def tA (K : PySem.W.Frag) (mg : Str → Option Value) (W : WX) (f : En → Rs (List D)) : TA := fun σ H Q => ∃ ρ F, Good K F H σ ρ ∧ OutA K mg W σ F H (f ρ) Q
def tAB (K : PySem.W.Frag) (mg : Str → Option Value) (W : WX) (f : En → Rs (List D)) : TA := fun σ H Q => ∃ ρ F, Good K F H σ ρ ∧ OutAB K mg W σ F H (f ρ) Q
abbrev DE (X : Cx) (W : WX) (e : Expr) (f : DEx) : Prop := PE X e (tE X.K X.mg W f)
abbrev DB (X : Cx) (W : WX) (e : Expr) (f : DEx) : Prop := PE X e (tB X.K X.mg W f)
abbrev DN (X : Cx) (W : WX) (e : Expr) (f : En → Rs (List D)) : Prop := PE X e (tN X.K X.mg W f)
abbrev DT (X : Cx) (W : WX) (e : Expr) (f : En → Rs Bool) : Prop := PT X e (tT X.K X.mg W f)
abbrev DA (X : Cx) (W : WX) (es : List Expr) (f : En → Rs (List D)) : Prop := PA X es (tA X.K X.mg W f)
abbrev DAB (X : Cx) (W : WX) (es : List Expr) (f : En → Rs (List D)) : Prop := PA X es (tAB X.K X.mg W f)

theorem PE.imp {X : Cx} {e : Expr} {t t' : TE} (h : PE X e t) (i : ∀ σ H Q, t' σ H Q → t σ H Q) : PE X e t' := ⟨fun pins s σ H Q I x => h.run pins s σ H Q I (i σ H Q x)⟩
theorem PT.imp {X : Cx} {e : Expr} {t t' : TT} (h : PT X e t) (i : ∀ σ H Q, t' σ H Q → t σ H Q) : PT X e t' := ⟨fun pins s σ H Q I x => h.run pins s σ H Q I (i σ H Q x)⟩
theorem PW.imp {X : Cx} {e : Expr} {t t' : TT} (h : PW X e t) (i : ∀ σ H Q, t' σ H Q → t σ H Q) : PW X e t' := ⟨fun wh pins s σ H Q I x => h.run wh pins s σ H Q I (i σ H Q x)⟩
theorem PA.imp {X : Cx} {e : List Expr} {t t' : TA} (h : PA X e t) (i : ∀ σ H Q, t' σ H Q → t σ H Q) : PA X e t' := ⟨fun pos pins s σ H Q I x => h.run pos pins s σ H Q I (i σ H Q x)⟩
theorem PS.imp {X : Cx} {e : Stmt} {t t' : TS} (h : PS X e t) (i : ∀ D σ H, t' D σ H → t D σ H) : PS X e t' := ⟨fun pins s σ H Q I x => h.run pins s σ H Q I (i Q σ H x)⟩
theorem PSs.imp {X : Cx} {e : List Stmt} {t t' : TS} (h : PSs X e t) (i : ∀ D σ H, t' D σ H → t D σ H) : PSs X e t' := ⟨fun pins s σ H Q I x => h.run pins s σ H Q I (i Q σ H x)⟩

section
variable {X : Cx} {W : WX}
theorem Bp.mono {K : PySem.W.Frag} {F H F' H' : Hp} {v : V} {d : D} (g : Grow F H F' H') (h : Bp K F H v d) : Bp K F' H' v d := by
  rcases h with h | ⟨p, xs, ds, e1, e2, h, r⟩
  · exact .inl (h.mono g.f)
  · exact .inr ⟨p, xs, ds, e1, e2, g.h _ _ h, r.mono g.f⟩
theorem BpAll.mono {K : PySem.W.Frag} {F H F' H' : Hp} (g : Grow F H F' H') : ∀ {v : List V} {d : List D}, BpAll K F H v d → BpAll K F' H' v d
  | _, _, .nil => .nil
  | _, _, .cons a b => .cons (a.mono g) (BpAll.mono g b)
theorem RpAll.bp {K : PySem.W.Frag} {F H : Hp} : ∀ {v : List V} {d : List D}, RpAll K F v d → BpAll K F H v d
  | _, _, .nil => .nil
  | _, _, .cons a b => .cons (.inl a) (RpAll.bp b)
theorem Bp.dp {K : PySem.W.Frag} {F H : Hp} {v : V} {d : D} (s : Same F H) (h : Bp K F H v d) : Dp K H v d := by
  rcases h with h | ⟨p, xs, ds, e1, e2, h, r⟩
  · exact (h.mono s).dp
  · subst e1; subst e2
    exact .lst (.inl (.inl h)) (r.mono s).dp
/-- a list, frozen or owned -/
theorem Bp.list {K : PySem.W.Frag} {F H : Hp} {v : V} {ds : List D} (s : Same F H) (h : Bp K F H v (.list ds)) : ∃ a xs, v = .ref a ∧ Rd H a (.lst xs) ∧ RpAll K F xs ds := by
  rcases h with h | ⟨p, xs, ds', e1, e2, h, r⟩
  · cases h with
    | lst h t => exact ⟨_, _, rfl, same_rd s h, t⟩
  · cases e2
    exact ⟨p, xs, e1, .inl h, r⟩
theorem Bp.rp {K : PySem.W.Frag} {F H : Hp} {v : V} {d : D} (h : Bp K F H v d) (n : ∀ ds, d ≠ .list ds) : Rp K F v d := by
  rcases h with h | ⟨p, xs, ds, e1, e2, _⟩
  · exact h
  · exact absurd e2 (n ds)
theorem Bp.int {K : PySem.W.Frag} {F H : Hp} {v : V} {i : Int} (h : Bp K F H v (.int i)) : v = .int i := (h.rp fun _ => by simp).inj_int
theorem Bp.str {K : PySem.W.Frag} {F H : Hp} {v : V} {i : Str} (h : Bp K F H v (.str i)) : v = .str i := (h.rp fun _ => by simp).inj_str
theorem Bp.sok {K : PySem.W.Frag} {F H : Hp} {v : V} {i : Str} (h : Bp K F H v (.str i)) : SOk i := (h.rp fun _ => by simp).sok
theorem Bp.lay {K : PySem.W.Frag} {F H : Hp} {v : V} {d : D} (h : Bp K F H v d) : d.canLay0 = true := by
  rcases h with h | ⟨p, xs, ds, e1, e2, h, r⟩
  · exact h.lay
  · subst e2; exact r.lay
theorem Bp.bool {K : PySem.W.Frag} {F H : Hp} {v : V} {i : Bool} (h : Bp K F H v (.bool i)) : v = .bl i := (h.rp fun _ => by simp).inj_bool
theorem Bp.none {K : PySem.W.Frag} {F H : Hp} {v : V} (h : Bp K F H v .none) : v = .non := (h.rp fun _ => by simp).inj_none
theorem Bp.tup {K : PySem.W.Frag} {F H : Hp} {v : V} {ds : List D} (s : Same F H) (h : Bp K F H v (.tuple ds)) : ∃ a xs, v = .ref a ∧ SqT K H a xs ∧ RpAll K F xs ds := by
  cases (h.rp fun _ => by simp) with
  | tup h2 t => exact ⟨_, _, rfl, same_sqT s h2, t⟩

theorem DE.b {e : Expr} {f : DEx} (h : DE X W e f) : DB X W e f := PE.imp h fun σ H Q ⟨ρ, F, G, o⟩ => ⟨ρ, F, G, by
  cases q : f ρ with
  | ok d => rw [q] at o; exact fun v F' H' g r => o v F' H' g (.inl r)
  | ex c => rw [q] at o; exact o
  | bad => rw [q] at o; exact o⟩
/-- a new list, frozen -/
def eFz (f : En → Rs (List D)) : DEx := fun ρ => (f ρ).bind fun ds => .ok (.list ds)
theorem DN.e {e : Expr} {f : En → Rs (List D)} (h : DN X W e f) : DE X W e (eFz f) := PE.imp h fun σ H Q ⟨ρ, F, G, o⟩ => ⟨ρ, F, G, by
  unfold eFz at o
  cases q : f ρ with
  | ok ds =>
    rw [q] at o
    intro p xs F' H' g hn fn hp r
    have nF : F' p = none := fn
    refine o (.ref p) (upd F' p (.lst xs)) H' ⟨g.f.trans (same_upd nF), g.h, fun b u z => ?_, fun b u hb fb => ?_, fun b o' u z => g.nz b o' u (nz_upd (by intro _ _ h; cases h) b o' u z)⟩ (.lst (.inl upd_same) (r.mono (same_upd nF)))
    · by_cases hb : b = p
      · subst hb; rw [upd_same] at z; cases z; exact hp
      · rw [upd_ne hb] at z; exact g.sub _ _ z
    · rw [upd_ne (ne_of_none hb hn)]; exact g.new b u hb fb
  | ex c => rw [q] at o; exact o
  | bad => rw [q] at o; exact o⟩

/-! ### names, constants -/
def eVar (i : Nat) : DEx := fun ρ => match ρ[i]? with
  | some (some (.fz d)) => .ok d
  | _ => .bad
def eVarB (i : Nat) : DEx := fun ρ => match ρ[i]? with
  | some (some (.fz d)) => .ok d
  | some (some (.own ds)) => .ok (.list ds)
  | _ => .bad
theorem de_var (i : Nat) {x : Str} {pos : Pos} (hN : X.N[i]? = some x := by rfl) (hv : Vis X.env.scope x := by first | exact Or.inl rfl | exact Or.inr (Or.inl rfl) | exact Or.inr (Or.inr rfl)) (hd : (x == ("__debug__" : Str)) = false := by decide)
    (hcd : (x == ("__classdict__" : Str)) = false := by decide) : DE X W (.Name x pos) (eVar i) := PE.imp (pe_var hN hv hd hcd) fun σ H Q ⟨ρ, F, G, o⟩ => by
  unfold eVar at o
  split at o
  · rename_i d e
    obtain ⟨v, h1, h2⟩ := G.at_ i _ e
    exact ⟨v, h1, o v F H (.refl G.sub) h2⟩
  · exact o.elim
theorem db_var (i : Nat) {x : Str} {pos : Pos} (hN : X.N[i]? = some x := by rfl) (hv : Vis X.env.scope x := by first | exact Or.inl rfl | exact Or.inr (Or.inl rfl) | exact Or.inr (Or.inr rfl)) (hd : (x == ("__debug__" : Str)) = false := by decide)
    (hcd : (x == ("__classdict__" : Str)) = false := by decide) : DB X W (.Name x pos) (eVarB i) := PE.imp (pe_var hN hv hd hcd) fun σ H Q ⟨ρ, F, G, o⟩ => by
  unfold eVarB at o
  split at o
  · rename_i d e
    obtain ⟨v, h1, h2⟩ := G.at_ i _ e
    exact ⟨v, h1, o v F H (.refl G.sub) (.inl h2)⟩
  · rename_i ds e
    obtain ⟨v, h1, p, xs, e1, e2, e3, e4⟩ := G.at_ i _ e
    exact ⟨v, h1, o v F H (.refl G.sub) (.inr ⟨p, xs, ds, e1, rfl, e2, e4⟩)⟩
  · exact o.elim
def eC (d : D) : DEx := fun _ => .ok d
theorem de_int {i j pos} : DE X W (.Constant (.int i) j pos) (eC (.int i)) := PE.imp pe_int fun σ H Q ⟨ρ, F, G, o⟩ => o _ F H (.refl G.sub) (.int i)
theorem de_str {i j pos} (h : (decide (i.length ≤ sizeLine) && PyData.strOk i) = true := by decide +kernel) : DE X W (.Constant (.str i) j pos) (eC (.str i)) := PE.imp pe_str fun σ H Q ⟨ρ, F, G, o⟩ => o _ F H (.refl G.sub) (.str i (SOk.dec h))
theorem de_bool {i j pos} : DE X W (.Constant (.bool i) j pos) (eC (.bool i)) := PE.imp pe_bl fun σ H Q ⟨ρ, F, G, o⟩ => o _ F H (.refl G.sub) (.bl i)
theorem de_none {j pos} : DE X W (.Constant .none j pos) (eC .none) := PE.imp pe_non fun σ H Q ⟨ρ, F, G, o⟩ => o _ F H (.refl G.sub) .non
/-- a module's constant -/
structure Glob (K : PySem.W.Frag) (mg : Str → Option Value) (x : Str) (d : D) : Prop where
  ex : ∃ v u, mg x = some u ∧ RelV v u ∧ ∀ F, Rp K F v d
theorem de_glob {x : Str} {d : D} {pos : Pos} (h : Glob X.K X.mg x d) (hg : Gl X x := by rfl) (hd : (x == ("__debug__" : Str)) = false := by decide) : DE X W (.Name x pos) (eC d) := by
  obtain ⟨v, u, h1, h2, h3⟩ := h.ex
  exact PE.imp (pe_glob hg h1 h2 hd) fun σ H Q ⟨ρ, F, G, o⟩ => o _ F H (.refl G.sub) (h3 F)
end
end DL
namespace DL
open PySem PySem.Spec L2

/-! ## operators by values -/
def Ref2 (K : PySem.W.Frag) (r : R2) (g : D → D → Option D) : Prop :=
  ∀ (F H : Hp) x y dx dy d (Q : VK), Same F H → Bp K F H x dx → Bp K F H y dy → g dx dy = some d → (∀ v F' H', Grow F H F' H' → Rp K F' v d → Q v H') → r x y H Q
def eBind (f : DEx) (k : D → En → Rs D) : DEx := fun ρ => (f ρ).bind fun d => k d ρ
def e2 (g : D → D → Option D) (fa fb : DEx) : DEx := fun ρ => (fa ρ).bind fun a => (fb ρ).bind fun b => .of (g a b)
section
variable {X : Cx} {W : WX} {a b c : Expr} {fa fb fc : DEx} {pos : Pos}
/-- two borrowed values in a row -/
theorem bin_b {α : Type} {σ : L2.St} {H : Hp} {k : D → D → Rs α} {O : Hp → Hp → Rs α → Prop} {R : V → V → Hp → Prop}
    (h : ∃ ρ F, Good X.K F H σ ρ ∧ O F H ((fa ρ).bind fun a => (fb ρ).bind fun b => k a b))
    (hex : ∀ F H F' H' c, Grow F H F' H' → O F H (.ex c) → O F' H' (.ex c))
    (hx : ∀ F H c, O F H (.ex c) → ∀ C H', Same H H' → X.mg c = some (.ref C) → W (.ref C) none σ H') (hb : ∀ F H, O F H .bad → False)
    (hk : ∀ F H F' H' a b x y, O F H (k a b) → Grow F H F' H' → Bp X.K F' H' x a → Bp X.K F' H' y b → R x y H') :
    tB X.K X.mg W fa σ H fun x H1 => tB X.K X.mg W fb σ H1 fun y H2 => R x y H2 := by
  obtain ⟨ρ, F, G, o⟩ := h
  refine ⟨ρ, F, G, ?_⟩
  cases qa : fa ρ with
  | bad => rw [qa] at o; exact hb F H o
  | ex c => rw [qa] at o; exact hx F H c o
  | ok da =>
    intro x F1 H1 g1 r1
    refine ⟨ρ, F1, G.grow g1, ?_⟩
    rw [qa] at o
    cases qb : fb ρ with
    | bad => simp only [Rs.bind, qb] at o; exact (hb F H o).elim
    | ex c =>
      simp only [Rs.bind, qb] at o
      exact hx F1 H1 c (hex F H F1 H1 c g1 o)
    | ok db =>
      simp only [Rs.bind, qb] at o
      intro y F2 H2 g2 r2
      exact hk F H F2 H2 da db x y o (g1.trans g2) (r1.mono g2) r2
theorem OutE.ex {σ : L2.St} {F H F' H' : Hp} {c : Str} {Q : VK} (g : Grow F H F' H') (o : OutE X.K X.mg W σ F H (.ex c) Q) : OutE X.K X.mg W σ F' H' (.ex c) Q := fun C H2 s m => o C H2 (g.h.trans s) m
theorem OutT.ex {σ : L2.St} {F H F' H' : Hp} {c : Str} {Q : Bool → Hp → Prop} (g : Grow F H F' H') (o : OutT X.K X.mg W σ F H (.ex c) Q) : OutT X.K X.mg W σ F' H' (.ex c) Q := fun C H2 s m => o C H2 (g.h.trans s) m
theorem OutE.grow {σ : L2.St} {F H F' H' : Hp} {r : Rs D} {Q : VK} (g : Grow F H F' H') (o : OutE X.K X.mg W σ F H r Q) : OutE X.K X.mg W σ F' H' r Q := by
  cases r with
  | ok d => exact fun v F2 H2 g2 r2 => o v F2 H2 (g.trans g2) r2
  | ex c => exact OutE.ex g o
  | bad => exact o
theorem OutB.grow {σ : L2.St} {F H F' H' : Hp} {r : Rs D} {Q : VK} (g : Grow F H F' H') (o : OutB X.K X.mg W σ F H r Q) : OutB X.K X.mg W σ F' H' r Q := by
  cases r with
  | ok d => exact fun v F2 H2 g2 r2 => o v F2 H2 (g.trans g2) r2
  | ex c => exact fun C H2 s m => o C H2 (g.h.trans s) m
  | bad => exact o
theorem OutT.grow {σ : L2.St} {F H F' H' : Hp} {r : Rs Bool} {Q : Bool → Hp → Prop} (g : Grow F H F' H') (o : OutT X.K X.mg W σ F H r Q) : OutT X.K X.mg W σ F' H' r Q := by
  cases r with
  | ok d => exact fun F2 H2 g2 => o F2 H2 (g.trans g2)
  | ex c => exact OutT.ex g o
  | bad => exact o
theorem OutA.grow {σ : L2.St} {F H F' H' : Hp} {r : Rs (List D)} {Q : List V → Hp → Prop} (g : Grow F H F' H') (o : OutA X.K X.mg W σ F H r Q) : OutA X.K X.mg W σ F' H' r Q := by
  cases r with
  | ok d => exact fun v F2 H2 g2 r2 => o v F2 H2 (g.trans g2) r2
  | ex c => exact fun C H2 s m => o C H2 (g.h.trans s) m
  | bad => exact o
theorem OutAB.grow {σ : L2.St} {F H F' H' : Hp} {r : Rs (List D)} {Q : List V → Hp → Prop} (g : Grow F H F' H') (o : OutAB X.K X.mg W σ F H r Q) : OutAB X.K X.mg W σ F' H' r Q := by
  cases r with
  | ok d => exact fun v F2 H2 g2 r2 => o v F2 H2 (g.trans g2) r2
  | ex c => exact fun C H2 s m => o C H2 (g.h.trans s) m
  | bad => exact o
/-- from one borrowed value on -/
theorem one_b {σ : L2.St} {H : Hp} {k : D → En → Rs D} {Q : VK} {R : V → Hp → Prop} (h : tE X.K X.mg W (eBind fa k) σ H Q)
    (hk : ∀ ρ F' H' a x, Good X.K F' H' σ ρ → OutE X.K X.mg W σ F' H' (k a ρ) Q → Bp X.K F' H' x a → R x H') : tB X.K X.mg W fa σ H R := by
  obtain ⟨ρ, F, G, o⟩ := h
  refine ⟨ρ, F, G, ?_⟩
  unfold eBind at o
  cases qa : fa ρ with
  | bad => rw [qa] at o; exact o
  | ex c => rw [qa] at o; exact o
  | ok da =>
    rw [qa] at o
    intro x F1 H1 g1 r1
    exact hk ρ F1 H1 da x (G.grow g1) (o.grow g1) r1
theorem de_op {op : Operator} {r : R2} {g : D → D → Option D} (ho : OpR X (binaryOp op) r) (hg : Ref2 X.K r g) (ha : DB X W a fa) (hb : DB X W b fb) : DE X W (.BinOp a op b pos) (e2 g fa fb) :=
  PE.imp (pe_op ho ha hb) fun σ H Q h => by
    obtain ⟨ρ, F, G, o⟩ := h
    refine bin_b (k := fun a b => .of (g a b)) (O := fun F H r => OutE X.K X.mg W σ F H r Q ∧ Same F H) ⟨ρ, F, G, o, G.sub⟩ (fun F H F' H' c g o => ⟨OutE.ex g o.1, g.sub⟩) (fun F H c o => o.1) (fun F H o => o.1) fun F H F' H' a b x y o gr rx ry => ?_
    cases q : g a b with
    | none => rw [q] at o; exact o.1.elim
    | some d =>
      rw [q] at o
      exact hg F' H' x y a b d Q gr.sub rx ry q fun v F2 H2 g2 r2 => o.1 v F2 H2 (gr.trans g2) r2
theorem de_cmp {op : CmpOp} {r : R2} {g : D → D → Option D} (ho : OpR X (compareOp op) r) (hg : Ref2 X.K r g) (ha : DB X W a fa) (hb : DB X W b fb) (hm : behindInMarks op b = false) : DE X W (.Compare a [op] [b] pos) (e2 g fa fb) :=
  PE.imp (pe_cmpR ho ha hb hm) fun σ H Q h => by
    obtain ⟨ρ, F, G, o⟩ := h
    refine bin_b (k := fun a b => .of (g a b)) (O := fun F H r => OutE X.K X.mg W σ F H r Q ∧ Same F H) ⟨ρ, F, G, o, G.sub⟩ (fun F H F' H' c g o => ⟨OutE.ex g o.1, g.sub⟩) (fun F H c o => o.1) (fun F H o => o.1) fun F H F' H' a b x y o gr rx ry => ?_
    cases q : g a b with
    | none => rw [q] at o; exact o.1.elim
    | some d =>
      rw [q] at o
      exact hg F' H' x y a b d Q gr.sub rx ry q fun v F2 H2 g2 r2 => o.1 v F2 H2 (gr.trans g2) r2
/-- a comparison as a test: g gives a bool -/
def dBool : D → Rs Bool
  | .bool b => .ok b
  | _ => .bad
def t2 (g : D → D → Option D) (fa fb : DEx) : En → Rs Bool := fun ρ => (e2 g fa fb ρ).bind dBool
theorem dt_cmp {op : CmpOp} {r : R2} {g : D → D → Option D} (ho : OpR X (compareOp op) r) (hg : Ref2 X.K r g) (ha : DB X W a fa) (hb : DB X W b fb) (hm : behindInMarks op b = false) : DT X W (.Compare a [op] [b] pos) (t2 g fa fb) :=
  PT.imp (pt_cmpR ho ha hb hm) fun σ H Q h => by
    obtain ⟨ρ, F, G, o⟩ := h
    have e : t2 g fa fb ρ = (fa ρ).bind fun a => (fb ρ).bind fun b => (Rs.of (g a b)).bind dBool := by
      unfold t2 e2
      cases fa ρ <;> try rfl
      cases fb ρ <;> rfl
    rw [e] at o
    refine bin_b (k := fun a b => (Rs.of (g a b)).bind dBool) (O := fun F H r => OutT X.K X.mg W σ F H r Q ∧ Same F H) ⟨ρ, F, G, o, G.sub⟩ (fun F H F' H' c g o => ⟨OutT.ex g o.1, g.sub⟩) (fun F H c o => o.1) (fun F H o => o.1) fun F H F' H' a b x y o gr rx ry => ?_
    cases q : g a b with
    | none => rw [q] at o; exact o.1.elim
    | some d =>
      rw [q] at o
      refine hg F' H' x y a b d _ gr.sub rx ry q fun v F2 H2 g2 r2 => ?_
      cases d with
      | bool k => cases r2; exact ⟨k, rfl, o.1 F2 H2 (gr.trans g2)⟩
      | _ => exact o.1.elim
/-- a chain a op b op' c -/
def e3 (g g' : D → D → Option D) (fa fb fc : DEx) : DEx := fun ρ => (fa ρ).bind fun a => (fb ρ).bind fun b => (Rs.of (g a b)).bind fun k => match k with
  | .bool true => (fc ρ).bind fun c => .of (g' b c)
  | .bool false => .ok (.bool false)
  | _ => .bad
theorem de_chain {op op' : CmpOp} {r r' : R2} {g g' : D → D → Option D} (ho : OpR X (compareOp op) r) (ho' : OpR X (compareOp op') r') (hg : Ref2 X.K r g) (hg' : Ref2 X.K r' g') (ha : DB X W a fa) (hb : DB X W b fb) (hc : DB X W c fc)
    (hpe : PE X (.Compare a [op, op'] [b, c] pos) (tChain r r' (tB X.K X.mg W fa) (tB X.K X.mg W fb) (tB X.K X.mg W fc))) : DE X W (.Compare a [op, op'] [b, c] pos) (e3 g g' fa fb fc) :=
  PE.imp hpe fun σ H Q h => by
    obtain ⟨ρ, F, G, o⟩ := h
    refine bin_b (k := fun a b => (Rs.of (g a b)).bind fun k => match k with
      | .bool true => (fc ρ).bind fun c => .of (g' b c)
      | .bool false => .ok (.bool false)
      | _ => .bad) (O := fun F H r => OutE X.K X.mg W σ F H r Q ∧ Good X.K F H σ ρ) ⟨ρ, F, G, o, G⟩ (fun F H F' H' c g o => ⟨OutE.ex g o.1, o.2.grow g⟩) (fun F H c o => o.1) (fun F H o => o.1) fun F H F' H' a b x y o gr rx ry => ?_
    cases q : g a b with
    | none => rw [q] at o; exact o.1.elim
    | some d =>
      rw [q] at o
      refine hg F' H' x y a b d _ gr.sub rx ry q fun v F2 H2 g2 r2 => ?_
      cases d with
      | bool k =>
        cases r2
        refine ⟨k, rfl, ?_⟩
        cases k with
        | false =>
          exact o.1 (.bl false) F2 H2 (gr.trans g2) (.bl false)
        | true =>
          have o1 : OutE X.K X.mg W σ F H ((fc ρ).bind fun c => .of (g' b c)) Q := o.1
          refine ⟨ρ, F2, o.2.grow (gr.trans g2), ?_⟩
          cases qc : fc ρ with
          | bad => rw [qc] at o1; exact o1
          | ex c => rw [qc] at o1; exact OutE.ex (gr.trans g2) o1
          | ok dc =>
            rw [qc] at o1
            intro z F3 H3 g3 r3
            cases q' : g' b dc with
            | none => simp only [Rs.bind, q', Rs.of] at o1; exact o1.elim
            | some d' =>
              simp only [Rs.bind, q', Rs.of] at o1
              exact hg' F3 H3 y z b dc d' Q g3.sub (ry.mono (g2.trans g3)) r3 q' fun v F4 H4 g4 r4 => o1 v F4 H4 ((gr.trans g2).trans (g3.trans g4)) r4
      | _ => exact o.1.elim
end

/-! ### which operators -/
def dAdd : D → D → Option D
  | .int i, .int j => some (.int (i + j))
  | .str a, .str b => if a.length + b.length ≤ sizeLine then some (.str (a ++ b)) else none
  | .list a, .list b => if a.length + b.length ≤ sizeLine then some (.list (a ++ b)) else none
  | .tuple a, .tuple b => if a.length + b.length ≤ sizeLine then some (.tuple (a ++ b)) else none
  | _, _ => none
def dSub : D → D → Option D
  | .int i, .int j => some (.int (i - j))
  | _, _ => none
def strRep (x : Str) (n : Int) : Str := ⟨(List.replicate n.toNat x.cps.toList).flatten.toArray⟩
def dMul : D → D → Option D
  | .int i, .int j => if (-(2 ^ 64) < j ∧ j < 2 ^ 64) ∨ (-(2 ^ 64) < i ∧ i < 2 ^ 64) then some (.int (i * j)) else none
  | .str x, .int n => if -(2 ^ 63) ≤ n ∧ n < 2 ^ 63 ∧ x.length * n.toNat ≤ sizeLine then some (.str (strRep x n)) else none
  | .list x, .int n => if -(2 ^ 63) ≤ n ∧ n < 2 ^ 63 ∧ x.length * n.toNat ≤ sizeLine then some (.list (List.replicate n.toNat x).flatten) else none
  | _, _ => none
def dDiv : D → D → Option D
  | .int i, .int j => if 0 < j ∧ j < 1073741824 then some (.int (i / j)) else none
  | _, _ => none
def dMod : D → D → Option D
  | .int i, .int j => if 0 < j then some (.int (i % j)) else none
  | _, _ => none
def dPow : D → D → Option D
  | .int i, .int j => if 0 ≤ j ∧ j ≤ 1000000 ∧ i.natAbs < 2 ^ 64 then some (.int (i ^ j.toNat)) else none
  | _, _ => none

section
variable {X : Cx}
/-- lists + lists, tracked or locked -/
def rCatR : R2 := fun x y H Q => ∃ l b xs zs, x = .ref l ∧ y = .ref b ∧ Rd H l (.lst xs) ∧ Rd H b (.lst zs) ∧ xs.length + zs.length ≤ sizeLine ∧ ∀ p, H p = none → Q (.ref p) (upd H p (.lst (xs ++ zs)))
theorem rd_lst {pins : List (Addr × Obj)} {σ : L2.St} {H : Hp} {s : Shared} {l : Addr} {xs : List V} (I : Inv X pins σ H s) (hH : Rd H l (.lst xs)) : xs.length ≤ sizeLine ∧ ∃ (its : List Value) (n : Nat), Vals xs its ∧ xs.length = its.length ∧ s.heap.get? l = some { cls := .type "list", data := .seq its.toArray n } := by
  obtain ⟨z, its, n, r, e⟩ := hH.ok I.hok
  exact ⟨z, its, n, r, r.length, e⟩
theorem op_catR : OpR X (binaryOp .Add) rCatR := by
  intro pins s σ H x y v u Q I rx ry h
  obtain ⟨l, b, xs, zs, rfl, rfl, hH, hB, hz, q⟩ := h
  cases rx
  cases ry
  obtain ⟨z, its, n, r, hl, e⟩ := rd_lst I hH
  obtain ⟨z2, its2, n2, r2, hl2, e2⟩ := rd_lst I hB
  refine PySem.P.add_list e e2 ?_ (by rw [List.size_toArray, List.size_toArray]; omega)
  have ea : its.toArray ++ its2.toArray = (its ++ its2).toArray := by simp
  rw [ea]
  exact ⟨.ref _, _, I.lnew (t' := s.toks) (r.append r2) (by rw [List.length_append]; omega), rfl, q _ I.fresh⟩
def rRepS : R2 := fun x y H Q => ∃ z k, x = .str z ∧ y = .int k ∧ -(2 ^ 63) ≤ k ∧ k < 2 ^ 63 ∧ z.length * k.toNat ≤ sizeLine ∧ Q (.str (strRep z k)) H
theorem foldl_arr (l : List Nat) : ∀ (k : Nat) (acc : List Nat), (List.replicate k l.toArray).foldl (· ++ ·) acc.toArray = (acc ++ (List.replicate k l).flatten).toArray
  | 0, acc => by simp
  | k + 1, acc => by
    rw [List.replicate_succ, List.foldl_cons, List.replicate_succ, List.flatten_cons]
    have e : acc.toArray ++ l.toArray = (acc ++ l).toArray := by simp
    rw [e, foldl_arr l k (acc ++ l), List.append_assoc]
theorem op_repS : OpR X (binaryOp .Mult) rRepS := by
  intro pins s σ H x y v u Q I rx ry h
  obtain ⟨z, k, rfl, rfl, h1, h2, hz, q⟩ := h
  obtain ⟨t, rfl⟩ := rx
  obtain ⟨t', rfl⟩ := ry
  have hlen : z.length * k.toNat ≤ 16777216 := by
    have := hz
    rw [sizeLine_eq] at this
    exact this
  refine PySem.P.mul_str ?_ ?_ ?_ ?_
  · have a : ¬ k < -(2 ^ 63 : Int) := by omega
    have b : ¬ k ≥ 2 ^ 63 := by omega
    rw [decide_eq_false a, decide_eq_false b]; rfl
  · intro hn hne
    have hk : 0 < k := by omega
    intro hc
    have h3 : (z.length : Int) * k > 2 ^ 63 - 1 := by
      rcases Int.lt_or_le (2 ^ 63 - 1) ((z.length : Int) * k) with h | h
      · exact h
      · exact absurd hc (by
          have := (Int.le_ediv_iff_mul_le hk).mpr h
          omega)
    have h4 : ((z.length * k.toNat : Nat) : Int) = (z.length : Int) * k := by
      rw [Int.natCast_mul, Int.toNat_of_nonneg (by omega)]
    omega
  · intro hn hne
    unfold Builtin.Str.tooLong
    simp only [sizeLine_eq, decide_eq_false_iff_not]
    omega
  · have fin : ∀ t' c, EP X pins σ Q (.str (strRep z k) t') { s with toks := c } := fun t' c => ⟨.str _, H, I.tok _, ⟨_, rfl⟩, q⟩
    have e0 : strRep z k = if k < 1 then Str.empty else if (k == 1 || z.length == 0) = true then z else ⟨(List.replicate k.toNat z.cps).foldl (· ++ ·) #[]⟩ := by
      unfold strRep
      split
      · have : k.toNat = 0 := by omega
        rw [this]; rfl
      · split
        · rename_i hk hz
          simp only [Bool.or_eq_true, beq_iff_eq] at hz
          rcases hz with hz | hz
          · subst hz; simp
          · have : z.cps = #[] := by
              have : z.cps.size = 0 := hz
              exact Array.eq_empty_of_size_eq_zero this
            obtain ⟨c⟩ := z
            simp only at this
            subst this
            simp
        · have := foldl_arr z.cps.toList k.toNat []
          simp only [Array.toArray_toList, List.nil_append] at this
          rw [← this]
    by_cases c1 : k < 1
    · rw [if_pos c1]
      rw [e0, if_pos c1] at fin
      exact ⟨by decide, fin _ _⟩
    · rw [if_neg c1]
      by_cases c2 : (k == 1 || z.length == 0) = true
      · rw [if_pos c2]
        rw [e0, if_neg c1, if_pos c2] at fin
        exact fin t s.toks
      · rw [if_neg c2]
        have hl : (strRep z k).length ≤ 16777216 := by
          have : (strRep z k).length = z.length * k.toNat := by
            show ((List.replicate k.toNat z.cps.toList).flatten.toArray).size = _
            simp [List.length_flatten, Nat.mul_comm]
            exact Nat.mul_comm _ _
          omega
        rw [e0, if_neg c1, if_neg c2] at fin hl
        exact ⟨by simpa [sizeLine_eq] using hl, fin _ _⟩
end
end DL
namespace DL
open PySem PySem.Spec L2
section
variable {X : Cx}
theorem bp_list_rd {K : PySem.W.Frag} {F H : Hp} {v : V} {ds : List D} (s : Same F H) (h : Bp K F H v (.list ds)) : ∃ a xs, v = .ref a ∧ Rd H a (.lst xs) ∧ xs.length = ds.length ∧ RpAll K F xs ds := by
  obtain ⟨a, xs, e, r, t⟩ := h.list s
  exact ⟨a, xs, e, r, t.length, t⟩
/-- + -/
def rAddAll (K : PySem.W.Frag) : R2 := fun x y H Q => ((((rI0 fun i j => .int (i + j)) x y H Q) ∨ (∃ i j, x = .str i ∧ y = .str j ∧ i.length + j.length ≤ sizeLine ∧ Q (.str (i ++ j)) H)) ∨ rCatR x y H Q) ∨ rCatA K x y H Q
theorem op_addAll : OpR X (binaryOp .Add) (rAddAll X.K) := ((op_add.or op_add_str).or op_catR).or op_catA
theorem ref_add (K : PySem.W.Frag) : Ref2 K (rAddAll K) dAdd := by
  intro F H x y dx dy d Q s bx byy e k
  unfold dAdd at e
  split at e
  · cases e
    exact .inl (.inl (.inl ⟨_, _, bx.int, byy.int, k _ F H (.refl s) (.int _)⟩))
  · split at e
    · cases e
      exact .inl (.inl (.inr ⟨_, _, bx.str, byy.str, by assumption, k _ F H (.refl s) (.str _ (bx.sok.append byy.sok (by assumption)))⟩))
    · cases e
  · split at e
    · cases e
      obtain ⟨a, xs, rfl, r1, l1, t1⟩ := bp_list_rd s bx
      obtain ⟨b, ys, rfl, r2, l2, t2⟩ := bp_list_rd s byy
      refine .inl (.inr ⟨a, b, xs, ys, rfl, rfl, r1, r2, by omega, fun p hp => ?_⟩)
      exact k _ _ _ (Grow.laid s hp) (.lst (.inl upd_same) ((t1.append t2).mono (same_upd (s.free hp))))
    · cases e
  · split at e
    · cases e
      obtain ⟨a, xs, rfl, r1, t1⟩ := bx.tup s
      obtain ⟨b, ys, rfl, r2, t2⟩ := byy.tup s
      have l1 := t1.length
      have l2 := t2.length
      refine .inr ⟨a, b, xs, ys, rfl, rfl, r1, r2, by omega, fun e => ?_, fun _ e => ?_, fun _ e p hp => ?_⟩
      · subst e
        cases t1
        exact k _ F H (.refl s) (byy.rp fun _ => by simp)
      · subst e
        cases t2
        rw [List.append_nil] at k
        exact k _ F H (.refl s) (bx.rp fun _ => by simp)
      · exact k _ _ _ (Grow.laid s hp) (.tup (.inl (.inl upd_same)) ((t1.append t2).mono (same_upd (s.free hp))))
    · cases e
  · cases e
theorem ref_sub (K : PySem.W.Frag) : Ref2 K (rI0 fun i j => .int (i - j)) dSub := by
  intro F H x y dx dy d Q s bx byy e k
  unfold dSub at e
  split at e
  · cases e
    exact ⟨_, _, bx.int, byy.int, k _ F H (.refl s) (.int _)⟩
  · cases e
def rRepR : R2 := fun x y H Q => ∃ l k xs, x = .ref l ∧ y = .int k ∧ Rd H l (.lst xs) ∧ -(2 ^ 63) ≤ k ∧ k < 2 ^ 63 ∧ xs.length * k.toNat ≤ sizeLine ∧
  ∀ p, H p = none → Q (.ref p) (upd H p (.lst (List.replicate k.toNat xs).flatten))
open PyProof.Rows PySem.Builtin in
theorem op_repR : OpR X (binaryOp .Mult) rRepR := by
  intro pins s σ H x y v u Q I rx ry h
  obtain ⟨l, k, xs, rfl, rfl, hH, h1, h2, hz, q⟩ := h
  cases rx
  obtain ⟨t, rfl⟩ := ry
  obtain ⟨z, its, n, r, hl, e⟩ := rd_lst I hH
  have hlen : its.toArray.size * k.toNat ≤ sizeLine := by rw [List.size_toArray, ← hl]; exact hz
  have hcap : ¬ its.toArray.size * k.toNat > (2 ^ 63 - 1) / 8 := by
    have : (sizeLine : Nat) ≤ (2 ^ 63 - 1) / 8 := by decide
    omega
  have hfit : ¬ (!Builtin.List.listFitsIndex k) = true := by
    rw [fitsIndex_both h1 h2]
    exact Bool.false_ne_true
  have hlong : ¬ Builtin.List.listTooLong (its.toArray.size * k.toNat) = true := by
    rw [notLongL hlen]
    exact Bool.false_ne_true
  have hnew : List.foldl (fun x1 x2 => x1 ++ x2) #[] (List.replicate (if its.toArray.isEmpty = true then 0 else k.toNat) its.toArray) = (List.replicate k.toNat its).flatten.toArray := by
    have f0 : ∀ m : Nat, List.foldl (fun x1 x2 => x1 ++ x2) #[] (List.replicate m its.toArray) = (List.replicate m its).flatten.toArray := fun m => by
      have := foldl_rep its m []
      rw [List.nil_append] at this
      exact this
    rw [f0]
    cases its with
    | nil => simp
    | cons a r' => rw [if_neg (by simp)]
  refine wpAny_binaryOp_repeat_ref (T := "list") (U := "int") (by decide) ⟨_, e, rfl⟩ (fun s' => typeIs_int s' k t) noFill_list_mul F.fills_int_mul F.slot_int_rmul repeat_list F.slot_int_index.lookup
    (call_meets F.slot_int_rmul (typeIs_int s k t) F.entry_int_rmul (F.args_int_rmul_2 _ _) (int___rmul___int_list k t l its.toArray n)
      ⟨e, rfl, ⟨_, e, rfl⟩, call_meets F.slot_list_mul ⟨_, e, rfl⟩ F.entry_list_mul (F.args_list_mul_2 _ _) (AutoListH.list___mul___list_int_3 l its.toArray n k t hfit hcap hlong) ⟨e, ?_⟩⟩)
  rw [hnew]
  exact ⟨.ref _, _, I.lnew (t' := s.toks) (r.rep k.toNat) (by rw [PyProof.Rows.lm_len_rep_flat, Nat.mul_comm]; exact hz), rfl, q _ I.fresh⟩
def rMulAll : R2 := fun x y H Q => ((rI CMul fun i j => .int (i * j)) x y H Q ∨ rRepS x y H Q) ∨ rRepR x y H Q
theorem op_mulAll : OpR X (binaryOp .Mult) rMulAll := (op_mul.or op_repS).or op_repR
theorem rep_len {l : List Nat} {n : Nat} : ((List.replicate n l).flatten).length = l.length * n := by
  simp [List.length_flatten, Nat.mul_comm]
theorem rep_mem {l : List Nat} {n : Nat} : ∀ c ∈ (List.replicate n l).flatten, c ∈ l := fun c hc => by
  obtain ⟨m, hm, h⟩ := List.mem_flatten.mp hc
  rw [List.eq_of_mem_replicate hm] at h
  exact h
theorem ref_mul (K : PySem.W.Frag) : Ref2 K rMulAll dMul := by
  intro F H x y dx dy d Q s bx byy e k
  unfold dMul at e
  split at e
  · split at e
    · cases e
      rename_i hh
      exact .inl (.inl ⟨_, _, bx.int, byy.int, hh.symm, k _ F H (.refl s) (.int _)⟩)
    · cases e
  · split at e
    · cases e
      rename_i hh
      exact .inl (.inr ⟨_, _, bx.str, byy.int, hh.1, hh.2.1, hh.2.2, k _ F H (.refl s) (.str _ (bx.sok.sub (by rw [rep_len, ← str_length]; exact hh.2.2) rep_mem))⟩)
    · cases e
  · split at e
    · cases e
      rename_i hh
      obtain ⟨a, xs, rfl, r1, l1, t1⟩ := bp_list_rd s bx
      refine .inr ⟨a, _, xs, rfl, byy.int, r1, hh.1, hh.2.1, by rw [l1]; exact hh.2.2, fun p hp => ?_⟩
      exact k _ _ _ (Grow.laid s hp) (.lst (.inl upd_same) ((t1.rep _).mono (same_upd (s.free hp))))
    · cases e
  · cases e
theorem ref_div (K : PySem.W.Frag) : Ref2 K (rI CDiv fun i j => .int (i / j)) dDiv := by
  intro F H x y dx dy d Q s bx byy e k
  unfold dDiv at e
  split at e
  · split at e
    · cases e
      exact ⟨_, _, bx.int, byy.int, by assumption, k _ F H (.refl s) (.int _)⟩
    · cases e
  · cases e
theorem ref_mod (K : PySem.W.Frag) : Ref2 K (rI (fun _ j => 0 < j) fun i j => .int (i % j)) dMod := by
  intro F H x y dx dy d Q s bx byy e k
  unfold dMod at e
  split at e
  · split at e
    · cases e
      exact ⟨_, _, bx.int, byy.int, by assumption, k _ F H (.refl s) (.int _)⟩
    · cases e
  · cases e
theorem ref_pow (K : PySem.W.Frag) : Ref2 K (rI CPow fun i j => .int (i ^ j.toNat)) dPow := by
  intro F H x y dx dy d Q s bx byy e k
  unfold dPow at e
  split at e
  · split at e
    · cases e
      exact ⟨_, _, bx.int, byy.int, by assumption, k _ F H (.refl s) (.int _)⟩
    · cases e
  · cases e
/-! ### comparisons -/
def dLt : D → D → Option D
  | .int i, .int j => some (.bool (decide (i < j)))
  | .str a, .str b => some (.bool (decide (a.cps.toList < b.cps.toList)))
  | _, _ => none
def dLe : D → D → Option D
  | .int i, .int j => some (.bool (decide (i ≤ j)))
  | _, _ => none
def dGt : D → D → Option D
  | .int i, .int j => some (.bool (decide (j < i)))
  | _, _ => none
def dGe : D → D → Option D
  | .int i, .int j => some (.bool (decide (j ≤ i)))
  | _, _ => none
def rLtAll : R2 := fun x y H Q => (rI0 fun i j => .bl (decide (i < j))) x y H Q ∨ (∃ i j, x = .str i ∧ y = .str j ∧ Q (.bl (decide (i.cps.toList < j.cps.toList))) H)
theorem op_ltAll : OpR X (compareOp .Lt) rLtAll := op_lt.or op_lt_str
theorem ref_lt (K : PySem.W.Frag) : Ref2 K rLtAll dLt := by
  intro F H x y dx dy d Q s bx byy e k
  unfold dLt at e
  split at e
  · cases e
    exact .inl ⟨_, _, bx.int, byy.int, k _ F H (.refl s) (.bl _)⟩
  · cases e
    exact .inr ⟨_, _, bx.str, byy.str, k _ F H (.refl s) (.bl _)⟩
  · cases e
theorem ref_le (K : PySem.W.Frag) : Ref2 K (rI0 fun i j => .bl (decide (i ≤ j))) dLe := by
  intro F H x y dx dy d Q s bx byy e k
  unfold dLe at e
  split at e
  · cases e
    exact ⟨_, _, bx.int, byy.int, k _ F H (.refl s) (.bl _)⟩
  · cases e
theorem ref_gt (K : PySem.W.Frag) : Ref2 K (rI0 fun i j => .bl (decide (j < i))) dGt := by
  intro F H x y dx dy d Q s bx byy e k
  unfold dGt at e
  split at e
  · cases e
    exact ⟨_, _, bx.int, byy.int, k _ F H (.refl s) (.bl _)⟩
  · cases e
theorem ref_ge (K : PySem.W.Frag) : Ref2 K (rI0 fun i j => .bl (decide (j ≤ i))) dGe := by
  intro F H x y dx dy d Q s bx byy e k
  unfold dGe at e
  split at e
  · cases e
    exact ⟨_, _, bx.int, byy.int, k _ F H (.refl s) (.bl _)⟩
  · cases e
def scalD : D → D → Bool
  | .none, .none => true | .none, .int _ => true | .int _, .none => true | .none, .bool _ => true | .bool _, .none => true | .none, .str _ => true | .str _, .none => true
  | .int _, .int _ => true | .bool _, .bool _ => true | .str _, .str _ => true
  | .int _, .str _ => true | .str _, .int _ => true | .bool _, .str _ => true | .str _, .bool _ => true
  | _, _ => false
def dEq (a b : D) : Option D := if (scalD a b || (decide (a.depth ≤ 64) && decide (b.depth ≤ 64))) = true then some (.bool (PyData.eqv a b)) else none
def dNe (a b : D) : Option D := if (scalD a b || (decide (a.depth ≤ 64) && decide (b.depth ≤ 64))) = true then some (.bool (!PyData.eqv a b)) else none
theorem scal_of {K : PySem.W.Frag} {F : Hp} {x y : V} {a b : D} (hx : Rp K F x a) (hy : Rp K F y b) (h : scalD a b = true) : scal x y = true ∧ decide (x = y) = PyData.eqv a b := by
  cases hx <;> cases hy <;> first
    | exact ⟨rfl, rfl⟩
    | (exfalso; revert h; simp [scalD]; done)
    | (refine ⟨rfl, ?_⟩; simp [PyData.eqv]; done)
    | (refine ⟨rfl, ?_⟩; simp only [PyData.eqv]; first | exact dec_int | exact dec_bl | exact dec_str)
theorem scalD_nl {a b : D} (h : scalD a b = true) : (∀ ds, a ≠ .list ds) ∧ ∀ ds, b ≠ .list ds := by
  constructor <;> rintro ds rfl
  · cases b <;> simp [scalD] at h
  · cases a <;> simp [scalD] at h
def rEqAll (K : PySem.W.Frag) : R2 := fun x y H Q => rEq x y H Q ∨ rEqD K x y H Q
def rNeAll (K : PySem.W.Frag) : R2 := fun x y H Q => rNe x y H Q ∨ rNeD K x y H Q
theorem op_eqAll (hu : X.A.units + 64 < cLine) : OpR X (compareOp .Eq) (rEqAll X.K) := op_eq.or (op_eqD hu)
theorem op_neAll (hu : X.A.units + 64 < cLine) : OpR X (compareOp .NotEq) (rNeAll X.K) := op_ne.or (op_neD hu)
theorem shaped_of {d : D} (h : d.canLay0 = true) (h2 : decide (d.depth ≤ 64) = true) : SeqAt.shaped d = true := by
  unfold SeqAt.shaped
  rw [h, h2]; rfl
theorem ref_eq (K : PySem.W.Frag) : Ref2 K (rEqAll K) dEq := by
  intro F H x y dx dy d Q s bx byy e k
  unfold dEq at e
  split at e
  · cases e
    rename_i hh
    rw [Bool.or_eq_true, Bool.and_eq_true] at hh
    rcases hh with hh | ⟨h1, h2⟩
    · obtain ⟨n1, n2⟩ := scalD_nl hh
      obtain ⟨z1, z2⟩ := scal_of (bx.rp n1) (byy.rp n2) hh
      refine .inl ⟨z1, ?_⟩
      rw [z2]
      exact k _ F H (.refl s) (.bl _)
    · exact .inr ⟨_, _, bx.dp s, byy.dp s, shaped_of bx.lay h1, shaped_of byy.lay h2, k _ F H (.refl s) (.bl _)⟩
  · cases e
theorem ref_ne (K : PySem.W.Frag) : Ref2 K (rNeAll K) dNe := by
  intro F H x y dx dy d Q s bx byy e k
  unfold dNe at e
  split at e
  · cases e
    rename_i hh
    rw [Bool.or_eq_true, Bool.and_eq_true] at hh
    rcases hh with hh | ⟨h1, h2⟩
    · obtain ⟨n1, n2⟩ := scalD_nl hh
      obtain ⟨z1, z2⟩ := scal_of (bx.rp n1) (byy.rp n2) hh
      refine .inl ⟨z1, ?_⟩
      rw [z2]
      exact k _ F H (.refl s) (.bl _)
    · exact .inr ⟨_, _, bx.dp s, byy.dp s, shaped_of bx.lay h1, shaped_of byy.lay h2, k _ F H (.refl s) (.bl _)⟩
  · cases e
/-- is, is not: of None, of bools -/
def dIs : D → D → Option D
  | .bool a, .bool b => some (.bool (decide (a = b)))
  | .none, .none => some (.bool true)
  | .bool _, .none => some (.bool false)
  | .int _, .none => some (.bool false)
  | .str _, .none => some (.bool false)
  | .list _, .none => some (.bool false)
  | .tuple _, .none => some (.bool false)
  | _, _ => none
def dIsNot (a b : D) : Option D := (dIs a b).bind fun d => match d with
  | .bool k => some (.bool (!k))
  | _ => none
def rIsAll : R2 := fun x y H Q => (y = .non ∧ Q (.bl (decide (x = .non))) H) ∨ rIsB x y H Q
def rIsNotAll : R2 := fun x y H Q => (y = .non ∧ Q (.bl (!decide (x = .non))) H) ∨ rNotB x y H Q
theorem op_isAll : OpR X (compareOp .Is) rIsAll := op_isN.or op_isBl
theorem op_isNotAll : OpR X (compareOp .IsNot) rIsNotAll := op_notN.or op_notBl
theorem bp_non {K : PySem.W.Frag} {F H : Hp} {x : V} {a : D} (h : Bp K F H x a) (n : a ≠ .none) : decide (x = .non) = false := by
  rcases h with h | ⟨p, xs, ds, rfl, _⟩
  · cases h <;> first | rfl | exact absurd rfl n
  · rfl
theorem ref_is (K : PySem.W.Frag) : Ref2 K rIsAll dIs := by
  intro F H x y dx dy d Q s bx byy e k
  unfold dIs at e
  split at e <;> cases e
  · exact .inr ⟨_, _, bx.bool, byy.bool, k _ F H (.refl s) (.bl _)⟩
  · refine .inl ⟨byy.none, ?_⟩
    rw [bx.none]
    exact k _ F H (.refl s) (.bl _)
  all_goals
    refine .inl ⟨byy.none, ?_⟩
    rw [bp_non bx (by simp)]
    exact k _ F H (.refl s) (.bl _)
theorem ref_isnot (K : PySem.W.Frag) : Ref2 K rIsNotAll dIsNot := by
  intro F H x y dx dy d Q s bx byy e k
  unfold dIsNot dIs at e
  split at e <;> cases e
  · exact .inr ⟨_, _, bx.bool, byy.bool, k _ F H (.refl s) (.bl _)⟩
  · refine .inl ⟨byy.none, ?_⟩
    rw [bx.none]
    exact k _ F H (.refl s) (.bl _)
  all_goals
    refine .inl ⟨byy.none, ?_⟩
    rw [bp_non bx (by simp)]
    exact k _ F H (.refl s) (.bl _)
/-- in -/
def flatD : D → Bool
  | .none => true
  | .bool _ => true
  | .int _ => true
  | .str _ => true
  | _ => false
def dIn : D → D → Option D
  | .str a, .str b => match a.cps.toList with
    | [c] => some (.bool (decide (c ∈ b.cps.toList)))
    | _ => none
  | x, .list ds => if flatD x && ds.all flatD then some (.bool (ds.any fun y => PyData.eqv y x)) else none
  | x, .tuple ds => if flatD x && ds.all flatD then some (.bool (ds.any fun y => PyData.eqv y x)) else none
  | _, _ => none
def dNot : D → Option D
  | .bool k => some (.bool (!k))
  | _ => none
def dNotIn (a b : D) : Option D := (dIn a b).bind dNot
def rInAll (K : PySem.W.Frag) : R2 := fun x y H Q => (∃ (c : Nat) (z : Str), x = .str ⟨#[c]⟩ ∧ y = .str z ∧ Q (.bl (decide (c ∈ z.cps.toList))) H) ∨ rIn K false x y H Q
def rNotInAll (K : PySem.W.Frag) : R2 := fun x y H Q => (∃ (c : Nat) (z : Str), x = .str ⟨#[c]⟩ ∧ y = .str z ∧ Q (.bl (!decide (c ∈ z.cps.toList))) H) ∨ rIn K true x y H Q
theorem op_inAll : OpR X (compareOp .In) (rInAll X.K) := op_in_sign.or op_in_seq
theorem op_notInAll : OpR X (compareOp .NotIn) (rNotInAll X.K) := op_notIn_sign.or op_notIn_seq
theorem flat_of {K : PySem.W.Frag} {F : Hp} {x : V} {a : D} (h : Rp K F x a) : flatV x = flatD a := by cases h <;> rfl
theorem flat_all {K : PySem.W.Frag} {F : Hp} : ∀ {xs : List V} {ds : List D}, RpAll K F xs ds → xs.all flatV = ds.all flatD
  | _, _, .nil => rfl
  | _, _, .cons a b => by rw [List.all_cons, List.all_cons, flat_of a, flat_all b]
theorem eqV_of {K : PySem.W.Frag} {F : Hp} {x y : V} {a b : D} (hx : Rp K F x a) (hy : Rp K F y b) (fa : flatD a = true) (fb : flatD b = true) : eqV x y = PyData.eqv a b := by
  cases hx <;> cases hy <;> first | rfl | (simp [flatD] at fa; done) | (simp [flatD] at fb; done) | simp [eqV, PyData.eqv]
theorem any_eqv {K : PySem.W.Frag} {F : Hp} {x : V} {a : D} (hx : Rp K F x a) (fa : flatD a = true) : ∀ {xs : List V} {ds : List D}, RpAll K F xs ds → ds.all flatD = true → inV x xs = ds.any fun y => PyData.eqv y a
  | _, _, .nil, _ => rfl
  | _, _, .cons h t, f => by
    rw [List.all_cons, Bool.and_eq_true] at f
    have ih := any_eqv hx fa t f.2
    unfold inV at ih ⊢
    rw [List.any_cons, List.any_cons, ih, eqV_of h hx f.1 fa]
theorem rp_flat {K : PySem.W.Frag} {F H : Hp} {x : V} {a : D} (h : Bp K F H x a) (f : flatD a = true) : Rp K F x a := h.rp fun ds e => by subst e; cases f
theorem str_one {a : Str} {c : Nat} (h : a.cps.toList = [c]) : a = ⟨#[c]⟩ := by
  obtain ⟨cs⟩ := a
  simp only at h
  have : cs = #[c] := by rw [← Array.toArray_toList (xs := cs), h]
  rw [this]
theorem ref_in (K : PySem.W.Frag) : Ref2 K (rInAll K) dIn := by
  intro F H x y dx dy d Q s bx byy e k
  unfold dIn at e
  split at e
  · split at e
    · cases e
      rename_i c hc
      refine .inl ⟨c, _, ?_, byy.str, k _ F H (.refl s) (.bl _)⟩
      rw [bx.str, str_one hc]
    · cases e
  · split at e
    · cases e
      rename_i hh
      rw [Bool.and_eq_true] at hh
      obtain ⟨a, xs, rfl, r1, l1, t1⟩ := bp_list_rd s byy
      have hx := rp_flat bx hh.1
      refine .inr ⟨a, xs, rfl, .inl (.inl r1), by rw [flat_of hx]; exact hh.1, by rw [flat_all t1]; exact hh.2, ?_⟩
      show Q (.bl (inV x xs)) H
      rw [any_eqv hx hh.1 t1 hh.2]
      exact k _ F H (.refl s) (.bl _)
    · cases e
  · split at e
    · cases e
      rename_i hh
      rw [Bool.and_eq_true] at hh
      obtain ⟨a, xs, rfl, r1, t1⟩ := byy.tup s
      have hx := rp_flat bx hh.1
      refine .inr ⟨a, xs, rfl, .inr r1, by rw [flat_of hx]; exact hh.1, by rw [flat_all t1]; exact hh.2, ?_⟩
      show Q (.bl (inV x xs)) H
      rw [any_eqv hx hh.1 t1 hh.2]
      exact k _ F H (.refl s) (.bl _)
    · cases e
  · cases e
theorem ref_notin (K : PySem.W.Frag) : Ref2 K (rNotInAll K) dNotIn := by
  intro F H x y dx dy d Q s bx byy e k
  unfold dNotIn at e
  cases q : dIn dx dy with
  | none => rw [q] at e; cases e
  | some w =>
    rw [q] at e
    unfold dIn at q
    split at q
    · split at q
      · cases q; cases e
        rename_i c hc
        refine .inl ⟨c, _, ?_, byy.str, k _ F H (.refl s) (.bl _)⟩
        rw [bx.str, str_one hc]
      · cases q
    · split at q
      · cases q; cases e
        rename_i hh
        rw [Bool.and_eq_true] at hh
        obtain ⟨a, xs, rfl, r1, l1, t1⟩ := bp_list_rd s byy
        have hx := rp_flat bx hh.1
        refine .inr ⟨a, xs, rfl, .inl (.inl r1), by rw [flat_of hx]; exact hh.1, by rw [flat_all t1]; exact hh.2, ?_⟩
        show Q (.bl (!inV x xs)) H
        rw [any_eqv hx hh.1 t1 hh.2]
        exact k _ F H (.refl s) (.bl _)
      · cases q
    · split at q
      · cases q; cases e
        rename_i hh
        rw [Bool.and_eq_true] at hh
        obtain ⟨a, xs, rfl, r1, t1⟩ := byy.tup s
        have hx := rp_flat bx hh.1
        refine .inr ⟨a, xs, rfl, .inr r1, by rw [flat_of hx]; exact hh.1, by rw [flat_all t1]; exact hh.2, ?_⟩
        show Q (.bl (!inV x xs)) H
        rw [any_eqv hx hh.1 t1 hh.2]
        exact k _ F H (.refl s) (.bl _)
      · cases q
    · cases q
end
end DL
namespace DL
open PySem PySem.Spec L2
/-! ## truth, and, or, not, if -/
def dTru : D → Option Bool
  | .none => some false
  | .bool b => some b
  | .int i => some (i != 0)
  | .str y => some ((y.length : Int) != 0)
  | .list ds => some (!ds.isEmpty)
  | .tuple ds => some (!ds.isEmpty)
  | .dict _ => none
section
variable {X : Cx} {W : WX} {a b c e : Expr} {fa fb fc f : DEx} {pos : Pos}
theorem RpAll.isEmpty {K : PySem.W.Frag} {F : Hp} : ∀ {vs : List V} {ds : List D}, RpAll K F vs ds → vs.isEmpty = ds.isEmpty
  | _, _, .nil => rfl
  | _, _, .cons _ _ => rfl
theorem tru_of {K : PySem.W.Frag} {F H : Hp} {x : V} {d : D} {k : Bool} (s : Same F H) (h : Bp K F H x d) (t : dTru d = some k) : TruV K x H k := by
  cases d with
  | none => rw [h.none]; cases t; rfl
  | bool b => rw [h.bool]; cases t; rfl
  | int i => rw [h.int]; cases t; rfl
  | str y => rw [h.str]; cases t; exact ⟨h.sok.len, rfl⟩
  | list ds =>
    obtain ⟨p, xs, rfl, r, q⟩ := h.list s
    cases t
    exact .inl ⟨xs, .inl r, by rw [q.isEmpty]⟩
  | tuple ds =>
    obtain ⟨p, xs, rfl, r, q⟩ := h.tup s
    cases t
    exact .inr (.inl ⟨xs, r, by rw [q.isEmpty]⟩)
  | dict _ => cases t
def tTru (f : DEx) : En → Rs Bool := fun ρ => (f ρ).bind fun d => .of (dTru d)
theorem dt_truth (h : DB X W e f) (he : ∀ whole, isTrue e X.env whole = (do let v ← whole; standAt e.pos; holding [v] (truthy v)) := by intro _; rfl) : DT X W e (tTru f) :=
  PT.imp (pt_truth h he) fun σ H Q ⟨ρ, F, G, o⟩ => by
    refine ⟨ρ, F, G, ?_⟩
    unfold tTru at o
    cases q : f ρ with
    | bad => rw [q] at o; exact o
    | ex c => rw [q] at o; exact o
    | ok d =>
      rw [q] at o
      intro v F1 H1 g1 r1
      cases qt : dTru d with
      | none => simp only [Rs.bind, qt, Rs.of] at o; exact o.elim
      | some k =>
        simp only [Rs.bind, qt, Rs.of] at o
        exact ⟨k, tru_of g1.sub r1 qt, o F1 H1 g1⟩
def DW (X : Cx) (W : WX) (e : Expr) (f : En → Rs Bool) : Prop := PW X e (tT X.K X.mg W f)
theorem DW.t {g : En → Rs Bool} (h : DW X W e g) : DT X W e g := PW.pt h
variable {ga gb gc : En → Rs Bool} {rest : List Expr}
def tAnd (ga gb : En → Rs Bool) : En → Rs Bool := fun ρ => (ga ρ).bind fun k => if k then gb ρ else .ok false
def tOr (ga gb : En → Rs Bool) : En → Rs Bool := fun ρ => (ga ρ).bind fun k => if k then .ok true else gb ρ
def tNot (ga : En → Rs Bool) : En → Rs Bool := fun ρ => (ga ρ).bind fun k => .ok (!k)
theorem dw_and1 (ha : DT X W a ga) : DW X W (.BoolOp .And [a] pos) ga := pw_and1 ha
theorem dw_or1 (ha : DT X W a ga) : DW X W (.BoolOp .Or [a] pos) ga := pw_or1 ha
/-- from a test on -/
theorem test_then {σ : L2.St} {H : Hp} {k : Bool → Rs Bool} {Q : Bool → Hp → Prop} {R : Bool → Hp → Prop} {ρ : En} {F : Hp} (G : Good X.K F H σ ρ) (o : OutT X.K X.mg W σ F H ((ga ρ).bind k) Q)
    (hk : ∀ F' H' b, Good X.K F' H' σ ρ → OutT X.K X.mg W σ F' H' (k b) Q → R b H') : tT X.K X.mg W ga σ H R := by
  refine ⟨ρ, F, G, ?_⟩
  cases q : ga ρ with
  | bad => rw [q] at o; exact o
  | ex c => rw [q] at o; exact o
  | ok b =>
    rw [q] at o
    intro F1 H1 g1
    exact hk F1 H1 b (G.grow g1) (o.grow g1)
theorem OutT.self {σ : L2.St} {F H : Hp} {b : Bool} {Q : Bool → Hp → Prop} (s : Same F H) (o : OutT X.K X.mg W σ F H (.ok b) Q) : Q b H := o F H (.refl s)
theorem dw_and (ha : DT X W a ga) (hb : DW X W (.BoolOp .And (b :: rest) pos) gb) : DW X W (.BoolOp .And (a :: b :: rest) pos) (tAnd ga gb) :=
  PW.imp (pw_and ha hb) fun σ H Q ⟨ρ, F, G, o⟩ => test_then G o fun F' H' b G' o' => by
    cases b with
    | true => exact ⟨ρ, F', G', o'⟩
    | false => exact o'.self G'.sub
theorem dw_or (ha : DT X W a ga) (hb : DW X W (.BoolOp .Or (b :: rest) pos) gb) : DW X W (.BoolOp .Or (a :: b :: rest) pos) (tOr ga gb) :=
  PW.imp (pw_or ha hb) fun σ H Q ⟨ρ, F, G, o⟩ => test_then G o fun F' H' b G' o' => by
    cases b with
    | false => exact ⟨ρ, F', G', o'⟩
    | true => exact o'.self G'.sub
theorem dt_not (ha : DT X W a ga) : DT X W (.UnaryOp .Not a pos) (tNot ga) :=
  PT.imp (pt_not ha) fun σ H Q ⟨ρ, F, G, o⟩ => test_then G o fun F' H' b G' o' => o'.self G'.sub
/-- as values -/
def eAnd (fa fb : DEx) : DEx := fun ρ => (fa ρ).bind fun d => (Rs.of (dTru d)).bind fun k => if k then fb ρ else .ok d
def eOr (fa fb : DEx) : DEx := fun ρ => (fa ρ).bind fun d => (Rs.of (dTru d)).bind fun k => if k then .ok d else fb ρ
def eNot (fa : DEx) : DEx := fun ρ => (fa ρ).bind fun d => (Rs.of (dTru d)).bind fun k => .ok (.bool (!k))
theorem de_one {op} (h : DE X W a f) : DE X W (.BoolOp op [a] pos) f := pe_one h
/-- from an expression's value on -/
theorem exp_then {σ : L2.St} {H : Hp} {k : D → Rs D} {Q : VK} {R : VK} {ρ : En} {F : Hp} (G : Good X.K F H σ ρ) (o : OutE X.K X.mg W σ F H ((fa ρ).bind k) Q)
    (hk : ∀ F' H' d v, Good X.K F' H' σ ρ → OutE X.K X.mg W σ F' H' (k d) Q → Rp X.K F' v d → R v H') : tE X.K X.mg W fa σ H R := by
  refine ⟨ρ, F, G, ?_⟩
  cases q : fa ρ with
  | bad => rw [q] at o; exact o
  | ex c => rw [q] at o; exact o
  | ok b =>
    rw [q] at o
    intro v F1 H1 g1 r1
    exact hk F1 H1 b v (G.grow g1) (o.grow g1) r1
theorem expb_then {σ : L2.St} {H : Hp} {k : D → Rs D} {Q : VK} {R : VK} {ρ : En} {F : Hp} (G : Good X.K F H σ ρ) (o : OutE X.K X.mg W σ F H ((fa ρ).bind k) Q)
    (hk : ∀ F' H' d v, Good X.K F' H' σ ρ → OutE X.K X.mg W σ F' H' (k d) Q → Bp X.K F' H' v d → R v H') : tB X.K X.mg W fa σ H R := by
  refine ⟨ρ, F, G, ?_⟩
  cases q : fa ρ with
  | bad => rw [q] at o; exact o
  | ex c => rw [q] at o; exact o
  | ok b =>
    rw [q] at o
    intro v F1 H1 g1 r1
    exact hk F1 H1 b v (G.grow g1) (o.grow g1) r1
theorem testE_then {σ : L2.St} {H : Hp} {k : Bool → Rs D} {Q : VK} {R : Bool → Hp → Prop} {ρ : En} {F : Hp} (G : Good X.K F H σ ρ) (o : OutE X.K X.mg W σ F H ((ga ρ).bind k) Q)
    (hk : ∀ F' H' b, Good X.K F' H' σ ρ → OutE X.K X.mg W σ F' H' (k b) Q → R b H') : tT X.K X.mg W ga σ H R := by
  refine ⟨ρ, F, G, ?_⟩
  cases q : ga ρ with
  | bad => rw [q] at o; exact o
  | ex c => rw [q] at o; exact o
  | ok b =>
    rw [q] at o
    intro F1 H1 g1
    exact hk F1 H1 b (G.grow g1) (o.grow g1)
theorem OutE.self {σ : L2.St} {F H : Hp} {d : D} {v : V} {Q : VK} (s : Same F H) (o : OutE X.K X.mg W σ F H (.ok d) Q) (r : Rp X.K F v d) : Q v H := o v F H (.refl s) r
theorem de_and (ha : DE X W a fa) (hb : DE X W (.BoolOp .And (b :: rest) pos) fb) : DE X W (.BoolOp .And (a :: b :: rest) pos) (eAnd fa fb) :=
  PE.imp (pe_andT ha hb) fun σ H Q ⟨ρ, F, G, o⟩ => exp_then G o fun F' H' d v G' o' r => by
    cases qt : dTru d with
    | none => simp only [Rs.bind, qt, Rs.of] at o'; exact o'.elim
    | some k =>
      simp only [Rs.bind, qt, Rs.of] at o'
      refine ⟨k, tru_of G'.sub (.inl r) qt, ?_⟩
      cases k with
      | true => exact ⟨ρ, F', G', o'⟩
      | false => exact o'.self G'.sub r
theorem de_or (ha : DE X W a fa) (hb : DE X W (.BoolOp .Or (b :: rest) pos) fb) : DE X W (.BoolOp .Or (a :: b :: rest) pos) (eOr fa fb) :=
  PE.imp (pe_orT ha hb) fun σ H Q ⟨ρ, F, G, o⟩ => exp_then G o fun F' H' d v G' o' r => by
    cases qt : dTru d with
    | none => simp only [Rs.bind, qt, Rs.of] at o'; exact o'.elim
    | some k =>
      simp only [Rs.bind, qt, Rs.of] at o'
      refine ⟨k, tru_of G'.sub (.inl r) qt, ?_⟩
      cases k with
      | false => exact ⟨ρ, F', G', o'⟩
      | true => exact o'.self G'.sub r
theorem de_not (ha : DB X W a fa) : DE X W (.UnaryOp .Not a pos) (eNot fa) :=
  PE.imp (pe_notT ha) fun σ H Q ⟨ρ, F, G, o⟩ => expb_then G o fun F' H' d v G' o' r => by
    cases qt : dTru d with
    | none => simp only [Rs.bind, qt, Rs.of] at o'; exact o'.elim
    | some k =>
      simp only [Rs.bind, qt, Rs.of] at o'
      exact ⟨k, tru_of G'.sub r qt, o'.self G'.sub (.bl _)⟩
def eIf (g : En → Rs Bool) (fa fb : DEx) : DEx := fun ρ => (g ρ).bind fun k => if k then fa ρ else fb ρ
theorem de_if (hc : DT X W c gc) (ha : DE X W a fa) (hb : DE X W b fb) : DE X W (.IfExp c a b pos) (eIf gc fa fb) :=
  PE.imp (pe_ifExp hc ha hb) fun σ H Q ⟨ρ, F, G, o⟩ => testE_then G o fun F' H' k G' o' => by
    cases k with
    | true => exact ⟨ρ, F', G', o'⟩
    | false => exact ⟨ρ, F', G', o'⟩
/-- -1 -/
def dNeg : D → Option D
  | .int i => some (.int (-i))
  | _ => none
def e1 (g : D → Option D) (fa : DEx) : DEx := fun ρ => (fa ρ).bind fun d => .of (g d)
theorem de_neg (ha : DB X W a fa) : DE X W (.UnaryOp .USub a pos) (e1 dNeg fa) :=
  PE.imp (pe_un un_neg ha) fun σ H Q ⟨ρ, F, G, o⟩ => expb_then G o fun F' H' d v G' o' r => by
    cases d with
    | int i => exact ⟨i, r.int, o'.self G'.sub (.int _)⟩
    | _ => exact o'.elim

/-! ## items -/
def dIx : D → D → Option D
  | .list ds, .int i => atI ds i
  | .tuple ds, .int i => atI ds i
  | .str z, .int i => (atI z.cps.toList i).map fun c => .str ⟨#[c]⟩
  | _, _ => none
theorem RpAll.at {K : PySem.W.Frag} {F : Hp} {xs : List V} {ds : List D} {i : Int} {d : D} (h : RpAll K F xs ds) (e : atI ds i = some d) : ∃ v, atI xs i = some v ∧ Rp K F v d := by
  unfold atI at e ⊢
  rw [h.length]
  cases q : ixN ds.length i with
  | none => rw [q] at e; cases e
  | some j =>
    rw [q] at e
    obtain ⟨v, h1, h2⟩ := h.get (i := j) e
    exact ⟨v, h1, h2⟩
theorem atI_mem {α : Type} {xs : List α} {i : Int} {v : α} (h : atI xs i = some v) : v ∈ xs := by
  obtain ⟨j, _, h2, _⟩ := atI_get h
  exact List.mem_of_getElem? h2
theorem SOk.sign {a : Str} {c : Nat} (h : SOk a) (m : c ∈ a.cps.toList) : SOk ⟨#[c]⟩ :=
  SOk.sub (l := [c]) h (by show 1 ≤ sizeLine; decide) fun d hd => by simp at hd; subst hd; exact m
theorem ref_ix (K : PySem.W.Frag) : Ref2 K (rIx K) dIx := by
  intro F H x y dx dy d Q s bx byy e k
  unfold dIx at e
  split at e
  · obtain ⟨a, xs, rfl, r1, t1⟩ := bx.list s
    obtain ⟨v, h1, h2⟩ := t1.at e
    exact .inl ⟨a, xs, _, v, rfl, byy.int, .inl r1, h1, k _ F H (.refl s) h2⟩
  · obtain ⟨a, xs, rfl, r1, t1⟩ := bx.tup s
    obtain ⟨v, h1, h2⟩ := t1.at e
    exact .inr (.inl ⟨a, xs, _, v, rfl, byy.int, r1, h1, k _ F H (.refl s) h2⟩)
  · rename_i z i
    cases q : atI z.cps.toList i with
    | none => rw [q] at e; cases e
    | some c =>
      rw [q] at e
      cases e
      exact .inr (.inr ⟨z, i, c, bx.str, byy.int, bx.sok.len, q, k _ F H (.refl s) (.str _ (bx.sok.sign (atI_mem q)))⟩)
  · cases e
theorem de_ix (ha : DB X W a fa) (hb : DB X W b fb) (hs : PlainIx b := by intro _ _; rfl) : DE X W (.Subscript a b pos) (e2 dIx fa fb) :=
  PE.imp (pe_ix ix_seq ha hb hs) fun σ H Q h => by
    obtain ⟨ρ, F, G, o⟩ := h
    refine bin_b (k := fun a b => .of (dIx a b)) (O := fun F H r => OutE X.K X.mg W σ F H r Q ∧ Same F H) ⟨ρ, F, G, o, G.sub⟩ (fun F H F' H' c g o => ⟨OutE.ex g o.1, g.sub⟩) (fun F H c o => o.1) (fun F H o => o.1) fun F H F' H' a b x y o gr rx ry => ?_
    cases q : dIx a b with
    | none => rw [q] at o; exact o.1.elim
    | some d =>
      rw [q] at o
      exact ref_ix X.K F' H' x y a b d Q gr.sub rx ry q fun v F2 H2 g2 r2 => o.1 v F2 H2 (gr.trans g2) r2

/-! ## slices -/
def cutL {α : Type} (xs : List α) (lo hi : Option Int) : List α := (xs.drop (HT.sIx xs.length 0 lo)).take (HT.sIx xs.length xs.length hi - HT.sIx xs.length 0 lo)
def dCut (lo hi : Option Int) : D → Option D
  | .str z => some (.str (cutS z lo hi))
  | .list ds => some (.list (cutL ds lo hi))
  | .tuple ds => some (.tuple (cutL ds lo hi))
  | _ => none
def dPart : Option D → Option (Option Int)
  | none => some none
  | some (.int i) => some (some i)
  | _ => none
def tO (K : PySem.W.Frag) (mg : Str → Option Value) (W : WX) (f : En → Rs (Option Int)) : TO := fun σ H Q => ∃ ρ F, Good K F H σ ρ ∧ match f ρ with
  | .ok d => ∀ F' H', Grow F H F' H' → Q d H'
  | .ex c => ∀ C H', Same H H' → mg c = some (.ref C) → W (.ref C) none σ H'
  | .bad => False
def oNone : En → Rs (Option Int) := fun _ => .ok none
def dInt : D → Rs Int
  | .int i => .ok i
  | _ => .bad
def oSome (f : DEx) : En → Rs (Option Int) := fun ρ => (f ρ).bind fun d => (dInt d).bind fun i => .ok (some i)
theorem do_none : PO X none (tO X.K X.mg W oNone) := by
  have h : PO X none tNoPart := po_none
  exact ⟨fun pins s σ H Q I ⟨ρ, F, G, o⟩ => h.run pins s σ H Q I (o F H (.refl G.sub))⟩
theorem do_some (ha : DB X W a fa) : PO X (some a) (tO X.K X.mg W (oSome fa)) := by
  have h : PO X (some a) (tPart (tB X.K X.mg W fa)) := po_some ha
  refine ⟨fun pins s σ H Q I ⟨ρ, F, G, o⟩ => h.run pins s σ H Q I ⟨ρ, F, G, ?_⟩⟩
  unfold oSome at o
  cases q : fa ρ with
  | bad => rw [q] at o; exact o
  | ex c => rw [q] at o; exact o
  | ok d =>
    rw [q] at o
    intro v F1 H1 g1 r1
    cases d with
    | int i => exact ⟨i, r1.int, o F1 H1 g1⟩
    | _ => exact o.elim
def eCut (fa : DEx) (fl fh : En → Rs (Option Int)) : DEx := fun ρ => (fa ρ).bind fun d => (fl ρ).bind fun l => (fh ρ).bind fun h => .of (dCut l h d)
theorem RpAll.cut {K : PySem.W.Frag} {F : Hp} {xs : List V} {ds : List D} (h : RpAll K F xs ds) (lo hi : Option Int) : RpAll K F (cutV xs lo hi) (cutL ds lo hi) := by
  unfold cutV cutL
  rw [h.length]
  exact (h.drop _).take _
theorem SOk.cut {z : Str} (h : SOk z) (lo hi : Option Int) : SOk (cutS z lo hi) := by
  have hl := cutS_length z lo hi
  refine ⟨Nat.le_trans hl h.len, strOk_iff.mpr fun c hc => strOk_iff.mp h.ok c ?_⟩
  have hc' : c ∈ (z.cps.toList.drop (HT.sIx z.length 0 lo)).take (HT.sIx z.length z.length hi - HT.sIx z.length 0 lo) := by simpa [cutS] using hc
  exact List.mem_of_mem_drop (List.mem_of_mem_take hc')
def rSlAll (K : PySem.W.Frag) : V → Option Int → Option Int → Hp → VK → Prop := fun x lo hi H Q => (rSlS x lo hi H Q ∨ rSlL K x lo hi H Q) ∨ rSlA K x lo hi H Q
theorem sl_all : SlR X (rSlAll X.K) := (sl_str.or sl_list).or sl_tupA
theorem de_slice {lo hi : Option Expr} {fl fh : En → Rs (Option Int)} {p2 : Pos} (ha : DB X W a fa) (hl : PO X lo (tO X.K X.mg W fl)) (hh : PO X hi (tO X.K X.mg W fh)) : DE X W (.Subscript a (.Slice lo hi none p2) pos) (eCut fa fl fh) :=
  PE.imp (pe_slice sl_all ha hl hh) fun σ H Q ⟨ρ, F, G, o⟩ => expb_then G o fun F' H' d v G' o' r => by
    refine ⟨ρ, F', G', ?_⟩
    cases ql : fl ρ with
    | bad => rw [ql] at o'; exact o'
    | ex c => rw [ql] at o'; exact o'
    | ok l =>
      rw [ql] at o'
      intro F1 H1 g1
      refine ⟨ρ, F1, G'.grow g1, ?_⟩
      cases qh : fh ρ with
      | bad => simp only [Rs.bind, qh] at o'; exact o'
      | ex c => simp only [Rs.bind, qh] at o'; exact OutE.ex g1 o'
      | ok h =>
        simp only [Rs.bind, qh] at o'
        intro F2 H2 g2
        have r2 := r.mono (g1.trans g2)
        have G2 := (G'.grow g1).grow g2
        have o2 := o'.grow (g1.trans g2)
        cases d with
        | str z => exact .inl (.inl ⟨z, r2.str, r2.sok.len, o2.self g2.sub (.str _ (r2.sok.cut l h))⟩)
        | list ds =>
          obtain ⟨p, xs, rfl, q1, q2⟩ := r2.list g2.sub
          refine .inl (.inr ⟨p, xs, rfl, .inl q1, fun p' hp => ?_⟩)
          exact o2 _ _ _ (Grow.laid g2.sub hp) (.lst (.inl upd_same) ((q2.cut l h).mono (same_upd (g2.sub.free hp))))
        | tuple ds =>
          obtain ⟨p, xs, rfl, q1, q2⟩ := r2.tup g2.sub
          refine .inr ⟨p, xs, rfl, q1, fun hw => ?_, fun _ p' hp => ?_⟩
          · have e1 : cutL ds l h = ds := by
              rw [q2.length] at hw
              unfold cutL
              rw [hw.1, hw.2]
              simp
            have o3 : OutE X.K X.mg W σ F2 H2 (Rs.of (dCut l h (.tuple ds))) Q := o2
            have e2 : dCut l h (.tuple ds) = some (.tuple ds) := by rw [← e1]; simp only [dCut, e1]
            rw [e2] at o3
            exact o3.self g2.sub (r2.rp fun _ => by simp)
          · exact o2 _ _ _ (Grow.laid g2.sub hp) (.tup (.inl (.inl upd_same)) ((q2.cut l h).mono (same_upd (g2.sub.free hp))))
        | none => exact o'.elim
        | bool _ => exact o'.elim
        | int _ => exact o'.elim
        | dict _ => exact o'.elim

/-! ## arguments -/
variable {es : List Expr} {fs : En → Rs (List D)}
def aNil : En → Rs (List D) := fun _ => .ok []
def aCons (f : DEx) (fs : En → Rs (List D)) : En → Rs (List D) := fun ρ => (f ρ).bind fun d => (fs ρ).bind fun ds => .ok (d :: ds)
theorem da_nil : DA X W [] aNil := PA.imp pa_nil fun σ H Q ⟨ρ, F, G, o⟩ => o [] F H (.refl G.sub) .nil
theorem dab_nil : DAB X W [] aNil := PA.imp pa_nil fun σ H Q ⟨ρ, F, G, o⟩ => o [] F H (.refl G.sub) .nil
theorem da_cons (ha : DE X W e f) (hr : DA X W es fs) (hs : starEach (e :: es) X.env = (false, eval e X.env) :: starEach es X.env := by rfl) : DA X W (e :: es) (aCons f fs) :=
  PA.imp (pa_cons ha hr hs) fun σ H Q ⟨ρ, F, G, o⟩ => by
    refine ⟨ρ, F, G, ?_⟩
    unfold aCons at o
    cases q : f ρ with
    | bad => rw [q] at o; exact o
    | ex c => rw [q] at o; exact o
    | ok d =>
      rw [q] at o
      intro v F1 H1 g1 r1
      refine ⟨ρ, F1, G.grow g1, ?_⟩
      cases q2 : fs ρ with
      | bad => simp only [Rs.bind, q2] at o; exact o
      | ex c => simp only [Rs.bind, q2] at o; exact fun C H2 s m => o C H2 (g1.h.trans s) m
      | ok ds =>
        simp only [Rs.bind, q2] at o
        intro vs F2 H2 g2 r2
        exact o _ F2 H2 (g1.trans g2) (.cons (r1.mono g2.f) r2)
theorem dab_cons (ha : DB X W e f) (hr : DAB X W es fs) (hs : starEach (e :: es) X.env = (false, eval e X.env) :: starEach es X.env := by rfl) : DAB X W (e :: es) (aCons f fs) :=
  PA.imp (pa_cons ha hr hs) fun σ H Q ⟨ρ, F, G, o⟩ => by
    refine ⟨ρ, F, G, ?_⟩
    unfold aCons at o
    cases q : f ρ with
    | bad => rw [q] at o; exact o
    | ex c => rw [q] at o; exact o
    | ok d =>
      rw [q] at o
      intro v F1 H1 g1 r1
      refine ⟨ρ, F1, G.grow g1, ?_⟩
      cases q2 : fs ρ with
      | bad => simp only [Rs.bind, q2] at o; exact o
      | ex c => simp only [Rs.bind, q2] at o; exact fun C H2 s m => o C H2 (g1.h.trans s) m
      | ok ds =>
        simp only [Rs.bind, q2] at o
        intro vs F2 H2 g2 r2
        exact o _ F2 H2 (g1.trans g2) (.cons (r1.mono g2) r2)
/-! ## displays -/
def eTup (fs : En → Rs (List D)) : DEx := fun ρ => (fs ρ).bind fun ds => if ds.length ≤ sizeLine then .ok (.tuple ds) else .bad
theorem args_then {α : Type} {σ : L2.St} {H : Hp} {k : List D → Rs α} {O : Hp → Hp → Rs α → Prop} {R : List V → Hp → Prop} {ρ : En} {F : Hp} (G : Good X.K F H σ ρ) (o : O F H ((fs ρ).bind k))
    (hx : ∀ F H c, O F H (.ex c) → ∀ C H', Same H H' → X.mg c = some (.ref C) → W (.ref C) none σ H') (hb : ∀ F H, O F H .bad → False)
    (hk : ∀ F' H' ds vs, Grow F H F' H' → Good X.K F' H' σ ρ → O F H (k ds) → RpAll X.K F' vs ds → R vs H') : tA X.K X.mg W fs σ H R := by
  refine ⟨ρ, F, G, ?_⟩
  cases q : fs ρ with
  | bad => rw [q] at o; exact hb F H o
  | ex c => rw [q] at o; exact hx F H c o
  | ok ds =>
    rw [q] at o
    intro vs F1 H1 g1 r1
    exact hk F1 H1 ds vs g1 (G.grow g1) o r1
theorem argsb_then {α : Type} {σ : L2.St} {H : Hp} {k : List D → Rs α} {O : Hp → Hp → Rs α → Prop} {R : List V → Hp → Prop} {ρ : En} {F : Hp} (G : Good X.K F H σ ρ) (o : O F H ((fs ρ).bind k))
    (hx : ∀ F H c, O F H (.ex c) → ∀ C H', Same H H' → X.mg c = some (.ref C) → W (.ref C) none σ H') (hb : ∀ F H, O F H .bad → False)
    (hk : ∀ F' H' ds vs, Grow F H F' H' → Good X.K F' H' σ ρ → O F H (k ds) → BpAll X.K F' H' vs ds → R vs H') : tAB X.K X.mg W fs σ H R := by
  refine ⟨ρ, F, G, ?_⟩
  cases q : fs ρ with
  | bad => rw [q] at o; exact hb F H o
  | ex c => rw [q] at o; exact hx F H c o
  | ok ds =>
    rw [q] at o
    intro vs F1 H1 g1 r1
    exact hk F1 H1 ds vs g1 (G.grow g1) o r1
theorem de_tup {x1} (h : DA X W es fs) : DE X W (.Tuple es x1 pos) (eTup fs) :=
  PE.imp (pe_tup h) fun σ H Q ⟨ρ, F, G, o⟩ => args_then (O := fun F H r => OutE X.K X.mg W σ F H r Q) G o (fun _ _ _ o => o) (fun _ _ o => o) fun F' H' ds vs g G' o' r => by
    split at o'
    · rename_i hl
      refine ⟨by rw [r.length]; exact hl, fun p hp => ?_⟩
      exact o' _ _ _ (g.trans (Grow.laid g.sub hp)) (.tup (.inl (.inl upd_same)) (r.mono (same_upd (g.sub.free hp))))
    · exact o'.elim
def nLst (fs : En → Rs (List D)) : En → Rs (List D) := fun ρ => (fs ρ).bind fun ds => if ds.length ≤ sizeLine then .ok ds else .bad
theorem dn_lst (h : DA X W es fs) : DN X W (.List es pos) (nLst fs) :=
  PE.imp (pe_lst h) fun σ H Q ⟨ρ, F, G, o⟩ => args_then (O := fun F H r => OutN X.K X.mg W σ F H r Q) G o (fun _ _ _ o => o) (fun _ _ o => o) fun F' H' ds vs g G' o' r => by
    split at o'
    · rename_i hl
      refine ⟨by rw [r.length]; exact hl, fun p hp => ?_⟩
      exact o' p vs F' _ (g.trans (Grow.open g.sub hp)) (g.h.free hp) (g.sub.free hp) upd_same r
    · exact o'.elim
/-! ## calls of built-ins -/
def RefA (K : PySem.W.Frag) (r : List V → Hp → VK → Prop) (g : List D → Option D) : Prop :=
  ∀ (F H : Hp) vs ds d (Q : VK), Same F H → BpAll K F H vs ds → g ds = some d → (∀ v F' H', Grow F H F' H' → Rp K F' v d → Q v H') → r vs H Q
def eB (g : List D → Option D) (fs : En → Rs (List D)) : DEx := fun ρ => (fs ρ).bind fun ds => .of (g ds)
theorem de_callB {id : String} {x : Str} {r : List V → Hp → VK → Prop} {g : List D → Option D} {p : Pos} (hc : CallR X (.builtin id) r) (hr : RefA X.K r g) (hg : Gl X x) (hm : X.mg x = none) (hv : bootBuiltins x = some (.builtin id)) (ha : DAB X W (e :: es) fs) (hn : x ≠ "__name__" := by decide) (hdb : (x == ("__debug__" : Str)) = false := by decide)
    (he : starEach (e :: es) X.env = (false, eval e X.env) :: starEach es X.env := by rfl) (hpl : (backTo pos (starEach es X.env)).any (·.1) = false := by rfl) : DE X W (.Call (.Name x p) (e :: es) [] pos) (eB g fs) :=
  PE.imp (pe_callB hc hg hm hv ha hn hdb he hpl) fun σ H Q ⟨ρ, F, G, o⟩ => argsb_then (O := fun F H r => OutE X.K X.mg W σ F H r Q) G o (fun _ _ _ o => o) (fun _ _ o => o) fun F' H' ds vs gr G' o' b => by
    cases q : g ds with
    | none => rw [q] at o'; exact o'.elim
    | some d =>
      rw [q] at o'
      exact hr F' H' vs ds d Q gr.sub b q fun v F2 H2 g2 r2 => o' v F2 H2 (gr.trans g2) r2
theorem de_callTy {T : String} {x : Str} {r : List V → Hp → VK → Prop} {g : List D → Option D} {p : Pos} (hc : CallR X (.type T) r) (hr : RefA X.K r g) (hg : Gl X x) (hm : X.mg x = none) (hv : bootBuiltins x = some (.type T)) (ha : DAB X W (e :: es) fs) (hn : x ≠ "__name__" := by decide) (hdb : (x == ("__debug__" : Str)) = false := by decide)
    (he : starEach (e :: es) X.env = (false, eval e X.env) :: starEach es X.env := by rfl) (hpl : (backTo pos (starEach es X.env)).any (·.1) = false := by rfl) : DE X W (.Call (.Name x p) (e :: es) [] pos) (eB g fs) :=
  PE.imp (pe_callTy hc hg hm hv ha hn hdb he hpl) fun σ H Q ⟨ρ, F, G, o⟩ => argsb_then (O := fun F H r => OutE X.K X.mg W σ F H r Q) G o (fun _ _ _ o => o) (fun _ _ o => o) fun F' H' ds vs gr G' o' b => by
    cases q : g ds with
    | none => rw [q] at o'; exact o'.elim
    | some d =>
      rw [q] at o'
      exact hr F' H' vs ds d Q gr.sub b q fun v F2 H2 g2 r2 => o' v F2 H2 (gr.trans g2) r2
theorem BpAll.one {K : PySem.W.Frag} {F H : Hp} {vs : List V} {d : D} (h : BpAll K F H vs [d]) : ∃ v, vs = [v] ∧ Bp K F H v d := by
  cases h with
  | cons a b => cases b; exact ⟨_, rfl, a⟩
theorem BpAll.two {K : PySem.W.Frag} {F H : Hp} {vs : List V} {d e : D} (h : BpAll K F H vs [d, e]) : ∃ v w, vs = [v, w] ∧ Bp K F H v d ∧ Bp K F H w e := by
  cases h with
  | cons a b =>
    cases b with
    | cons a2 b2 => cases b2; exact ⟨_, _, rfl, a, a2⟩
def dLen : List D → Option D
  | [.str z] => some (.int z.length)
  | [.list ds] => some (.int ds.length)
  | [.tuple ds] => some (.int ds.length)
  | _ => none
theorem ref_len (K : PySem.W.Frag) : RefA K (fun xs H Q => ∃ x n, xs = [x] ∧ LenV K x H n ∧ Q (.int n) H) dLen := by
  intro F H vs ds d Q s b e k
  unfold dLen at e
  split at e <;> cases e
  · obtain ⟨v, rfl, r⟩ := b.one
    rw [r.str]
    exact ⟨_, _, rfl, ⟨r.sok.len, rfl⟩, k _ F H (.refl s) (.int _)⟩
  · obtain ⟨v, rfl, r⟩ := b.one
    obtain ⟨p, xs, rfl, q1, q2⟩ := r.list s
    exact ⟨_, _, rfl, .inl ⟨xs, .inl q1, rfl⟩, by rw [q2.length]; exact k _ F H (.refl s) (.int _)⟩
  · obtain ⟨v, rfl, r⟩ := b.one
    obtain ⟨p, xs, rfl, q1, q2⟩ := r.tup s
    exact ⟨_, _, rfl, .inr ⟨xs, q1, rfl⟩, by rw [q2.length]; exact k _ F H (.refl s) (.int _)⟩
end
end DL
namespace DL
open PySem PySem.Spec L2
/-! ## isinstance -/
def tyD : D → String
  | .none => "NoneType"
  | .bool _ => "bool"
  | .int _ => "int"
  | .str _ => "str"
  | .list _ => "list"
  | .tuple _ => "tuple"
  | .dict _ => "dict"
def isiD (T : String) (d : D) : Bool := tyD d == T || (T == "int" && tyD d == "bool")
section
variable {X : Cx} {W : WX} {a b c e o : Expr} {fa fb fc f fo : DEx} {pos : Pos} {es : List Expr} {fs : En → Rs (List D)}
theorem ty_of {K : PySem.W.Frag} {F H : Hp} {x : V} {d : D} (s : Same F H) (h : Bp K F H x d) (nd : tyD d ≠ "dict") : TyX K H x (.type (tyD d)) := by
  cases d with
  | none => rw [h.none]; exact .base .non
  | bool k => rw [h.bool]; exact .base (.bl k)
  | int i => rw [h.int]; exact .base (.int i)
  | str z => rw [h.str]; exact .base (.str z)
  | list ds =>
    obtain ⟨p, xs, rfl, r, _⟩ := h.list s
    rcases r with r | ⟨ob, r⟩
    · exact .base (.lst r)
    · exact .base (.frz r)
  | tuple ds =>
    obtain ⟨p, xs, rfl, r, _⟩ := h.tup s
    rcases r with (r | ⟨ob, r⟩) | ⟨ob, its, n, r, r2, _⟩
    · exact .base (.tup r)
    · exact .fTuple r
    · exact .kTuple r r2
  | dict _ => exact absurd rfl nd
def okT (T : String) : Bool := ["NoneType", "bool", "int", "str", "list", "tuple"].all fun t => kitB t T == some (t == T || (T == "int" && t == "bool"))
theorem kit_okT {K : PySem.W.Frag} {T : String} {d : D} (h : okT T = true) (nd : tyD d ≠ "dict") : PySem.W.kitOne K (.type (tyD d)) (.type T) = some (isiD T d) := by
  refine kit_ty ?_
  have := List.all_eq_true.mp h (tyD d) (by cases d <;> simp [tyD] at nd ⊢)
  exact eq_of_beq this
def eIsi (T : String) (f : DEx) : DEx := fun ρ => (f ρ).bind fun d => if tyD d = "dict" then .bad else .ok (.bool (isiD T d))
theorem de_isi {T : String} {x : Str} {p p2 : Pos} (hx : bootBuiltins x = some (.type T)) (hT : okT T = true) (mi : X.mg "isinstance" = none) (mt : X.mg x = none) (ha : DB X W a fa) (hg : Gl X "isinstance" := by rfl) (hg2 : Gl X x := by rfl)
    (hn : x ≠ "__name__" := by decide) (hdb : (x == ("__debug__" : Str)) = false := by decide)
    (hs1 : starEach [a, .Name x p2] X.env = (false, eval a X.env) :: starEach [.Name x p2] X.env := by rfl) (hs2 : starEach [.Name x p2] X.env = (false, eval (.Name x p2) X.env) :: starEach [] X.env := by rfl)
    (hpl : (backTo pos (starEach [.Name x p2] X.env)).any (·.1) = false := by rfl) :
    DE X W (.Call (.Name "isinstance" p) [a, .Name x p2] [] pos) (eIsi T fa) :=
  PE.imp (pe_callB call_isi hg mi (by decide +kernel) (pa_cons ha (pa_cons (pe_bltn (v := .ty T) hg2 mt hx rfl hn hdb) pa_nil hs2) hs1) (by decide) (by decide) hs1 hpl) fun σ H Q ⟨ρ, F, G, o⟩ => expb_then G o fun F' H' d v G' o' r => by
    by_cases nd : tyD d = "dict"
    · rw [if_pos nd] at o'; exact o'.elim
    · rw [if_neg nd] at o'
      exact ⟨v, _, _, _, _, rfl, .ty T, ty_of G'.sub r nd, kit_okT hT nd, o'.self G'.sub (.bl _)⟩

/-! ## methods of built-ins -/
def RefM (K : PySem.W.Frag) (r : V → List V → Hp → VK → Prop) (g : D → List D → Option D) : Prop :=
  ∀ (F H : Hp) x d0 vs ds d (Q : VK), Same F H → Bp K F H x d0 → BpAll K F H vs ds → g d0 ds = some d → (∀ v F' H', Grow F H F' H' → Rp K F' v d → Q v H') → r x vs H Q
def eM (T : String) (g : D → List D → Option D) (fo : DEx) (fs : En → Rs (List D)) : DEx := fun ρ => (fo ρ).bind fun o => if tyD o = T then (fs ρ).bind fun ds => .of (g o ds) else .bad
theorem tyV_of {K : PySem.W.Frag} {F H : Hp} {x : V} {d : D} {T : String} (s : Same F H) (h : Bp K F H x d) (hT : T = "str" ∨ T = "list") (e : tyD d = T) : tyV K T x H := by
  subst e
  cases d with
  | str z => rw [h.str]; rfl
  | list ds =>
    obtain ⟨p, xs, rfl, r, _⟩ := h.list s
    exact .inl ⟨rfl, xs, .inl r⟩
  | _ => simp [tyD] at hT
theorem de_m {T id : String} {name : Str} {apos cpos : Pos} {r : V → List V → Hp → VK → Prop} {g : D → List D → Option D} (hT : T = "str" ∨ T = "list") (pa : PlainAttrs T) (slot : Slot T name id) (hty : typeOf (.builtin id) = pure (.type "method_descriptor")) (hm : MtR X id r) (hr : RefM X.K r g) (ho : DB X W o fo) (ha : DAB X W (e :: es) fs)
    (hbase : attributeBase o name X.env (eval o X.env) = eval o X.env := by rfl)
    (hfew : ((backTo cpos (starEach (e :: es) X.env)).all (fun x => !x.1) && (backToKw cpos (keywordEach [] X.env)).all (fun x => x.1.isSome)
      && decide ((e :: es).length + ([] : List Keyword).length + (if ([] : List Keyword).isEmpty then 0 else 1) < 30)) = true := by rfl)
    (hline : (apos.endLine == cpos.line) = true := by rfl) (hs : starEach (e :: es) X.env = (false, eval e X.env) :: starEach es X.env := by rfl) (hplain : (backTo cpos (starEach es X.env)).any (·.1) = false := by rfl) :
    DE X W (.Call (.Attribute o name apos) (e :: es) [] cpos) (eM T g fo fs) :=
  PE.imp (pe_bm pa slot hty hm ho ha hbase hfew hline hs hplain) fun σ H Q ⟨ρ, F, G, o⟩ => expb_then G o fun F' H' d v G' o' rv => by
    by_cases hd : tyD d = T
    · rw [if_pos hd] at o'
      refine ⟨tyV_of G'.sub rv hT hd, ?_⟩
      refine argsb_then (O := fun F H r => OutE X.K X.mg W σ F H r Q) G' o' (fun _ _ _ o => o) (fun _ _ o => o) fun F2 H2 ds vs g2 G2 o2 b => ?_
      cases q : g d ds with
      | none => rw [q] at o2; exact o2.elim
      | some z =>
        rw [q] at o2
        exact hr F2 H2 v d vs ds z Q g2.sub (rv.mono g2) b q fun w F3 H3 g3 r3 => o2 w F3 H3 (g2.trans g3) r3
    · rw [if_neg hd] at o'; exact o'.elim
/-- the texts of a list of data -/
def strsOf : List D → Option (List Str)
  | [] => some []
  | .str x :: r => (strsOf r).map (x :: ·)
  | _ :: _ => none
theorem strsOf_eq : ∀ {ds : List D} {xs : List Str}, strsOf ds = some xs → ds = xs.map PyData.str
  | [], xs, h => by cases h; rfl
  | .str x :: r, xs, h => by
    cases q : strsOf r with
    | none => simp [strsOf, q] at h
    | some ys => simp [strsOf, q] at h; subst h; rw [strsOf_eq q]; rfl
  | .none :: _, _, h => by simp [strsOf] at h
  | .bool _ :: _, _, h => by simp [strsOf] at h
  | .int _ :: _, _, h => by simp [strsOf] at h
  | .list _ :: _, _, h => by simp [strsOf] at h
  | .tuple _ :: _, _, h => by simp [strsOf] at h
  | .dict _ :: _, _, h => by simp [strsOf] at h
theorem strsOf_map : ∀ xs : List Str, strsOf (xs.map PyData.str) = some xs
  | [] => rfl
  | x :: r => by
    show (strsOf (r.map PyData.str)).map (x :: ·) = _
    rw [strsOf_map r]; rfl
def intsOf : List D → Option (List Int)
  | [] => some []
  | .int x :: r => (intsOf r).map (x :: ·)
  | _ :: _ => none
theorem intsOf_eq : ∀ {ds : List D} {xs : List Int}, intsOf ds = some xs → ds = xs.map PyData.int
  | [], xs, h => by cases h; rfl
  | .int x :: r, xs, h => by
    cases q : intsOf r with
    | none => simp [intsOf, q] at h
    | some ys => simp [intsOf, q] at h; subst h; rw [intsOf_eq q]; rfl
  | .none :: _, _, h => by simp [intsOf] at h
  | .bool _ :: _, _, h => by simp [intsOf] at h
  | .str _ :: _, _, h => by simp [intsOf] at h
  | .list _ :: _, _, h => by simp [intsOf] at h
  | .tuple _ :: _, _, h => by simp [intsOf] at h
  | .dict _ :: _, _, h => by simp [intsOf] at h
theorem intsOf_map : ∀ xs : List Int, intsOf (xs.map PyData.int) = some xs
  | [] => rfl
  | x :: r => by
    show (intsOf (r.map PyData.int)).map (x :: ·) = _
    rw [intsOf_map r]; rfl
/-- sep.join(texts) -/
def jn (sep : Str) : List Str → Str := Str.join sep
def dJoin : D → List D → Option D
  | .str a, [.list ds] => (strsOf ds).bind fun ys => if (ys.map (·.length)).sum + ys.length * a.length ≤ sizeLine then some (.str (Str.join a ys)) else none
  | .str a, [.tuple ds] => (strsOf ds).bind fun ys => if (ys.map (·.length)).sum + ys.length * a.length ≤ sizeLine then some (.str (Str.join a ys)) else none
  | _, _ => none
theorem join_len (a : Str) : ∀ ys : List Str, (Str.join a ys).length ≤ (ys.map (·.length)).sum + ys.length * a.length := PySem.StrLaws.join_length_le a
theorem join_ok (a : Str) (ha : SOk a) : ∀ ys : List Str, (∀ y ∈ ys, SOk y) → PyData.strOk (Str.join a ys) = true
  | [], _ => by
    show PyData.strOk Str.empty = true
    decide +kernel
  | [y], h => (h y (by simp)).ok
  | y :: z :: r, h => by
    show PyData.strOk (y ++ a ++ Str.join a (z :: r)) = true
    have ih := strOk_iff.mp (join_ok a ha (z :: r) fun w hw => h w (List.mem_cons_of_mem _ hw))
    refine strOk_iff.mpr fun c hc => ?_
    rw [append_cps, append_cps, List.mem_append, List.mem_append] at hc
    rcases hc with (hc | hc) | hc
    · exact strOk_iff.mp (h y (by simp)).ok c hc
    · exact strOk_iff.mp ha.ok c hc
    · exact ih c hc
theorem sum_line {n : Nat} (h : n ≤ sizeLine) : n ≤ 16777216 := by rw [sizeLine_eq] at h; exact h
def rJoin (K : PySem.W.Frag) : V → List V → Hp → VK → Prop := fun x xs H Q => ∃ a p, ∃ ys : List Str, x = .str a ∧ xs = [.ref p] ∧ (SqL K H p (ys.map V.str) ∨ SqT K H p (ys.map V.str)) ∧
    (ys.map (·.length)).sum + ys.length * a.length ≤ 16777216 ∧ Q (.str (Txt.join a ys)) H
theorem ref_join (K : PySem.W.Frag) : RefM K (rJoin K) dJoin := by
  intro F H x d0 vs ds d Q s bx b e k
  unfold dJoin at e
  split at e
  · rename_i a ds'
    cases q : strsOf ds' with
    | none => rw [q] at e; cases e
    | some ys =>
      rw [q] at e
      simp only [Option.bind_some] at e
      split at e
      · cases e
        rename_i hl
        have hq := strsOf_eq q
        subst hq
        obtain ⟨v, rfl, r⟩ := b.one
        obtain ⟨p, xs, rfl, q1, q2⟩ := r.list s
        have e2 := q2.inj_strs
        subst e2
        refine ⟨a, p, ys, bx.str, rfl, .inl (.inl q1), sum_line hl, ?_⟩
        rw [show Txt.join a ys = Str.join a ys from PySem.StrLaws.glued_eq_join a ys]
        exact k _ F H (.refl s) (.str _ ⟨Nat.le_trans (join_len a ys) hl, join_ok a bx.sok ys q2.sok⟩)
      · cases e
  · rename_i a ds'
    cases q : strsOf ds' with
    | none => rw [q] at e; cases e
    | some ys =>
      rw [q] at e
      simp only [Option.bind_some] at e
      split at e
      · cases e
        rename_i hl
        have hq := strsOf_eq q
        subst hq
        obtain ⟨v, rfl, r⟩ := b.one
        obtain ⟨p, xs, rfl, q1, q2⟩ := r.tup s
        have e2 := q2.inj_strs
        subst e2
        refine ⟨a, p, ys, bx.str, rfl, .inr q1, sum_line hl, ?_⟩
        rw [show Txt.join a ys = Str.join a ys from PySem.StrLaws.glued_eq_join a ys]
        exact k _ F H (.refl s) (.str _ ⟨Nat.le_trans (join_len a ys) hl, join_ok a bx.sok ys q2.sok⟩)
      · cases e
  · cases e
/-- s.index(t), found -/
def dSIdx : D → List D → Option D
  | .str a, [.str b] => match Builtin.Str.occurrences a b 0 a.length 1 with
    | i :: _ => some (.int (i : Nat))
    | [] => none
  | _, _ => none
theorem ref_sidx (K : PySem.W.Frag) : RefM K (fun x xs H Q => ∃ a b i rest, x = .str a ∧ xs = [.str b] ∧ Builtin.Str.occurrences a b 0 a.length 1 = i :: rest ∧ Q (.int (i : Nat)) H) dSIdx := by
  intro F H x d0 vs ds d Q s bx b e k
  unfold dSIdx at e
  split at e
  · rename_i a b'
    split at e
    · cases e
      rename_i i rest q
      obtain ⟨v, rfl, r⟩ := b.one
      exact ⟨a, b', i, rest, bx.str, by rw [r.str], q, k _ F H (.refl s) (.int _)⟩
    · cases e
  · cases e
def dEnds : D → List D → Option D
  | .str a, [.str b] => some (.bool (Txt.endswith a b))
  | _, _ => none
theorem ref_ends (K : PySem.W.Frag) : RefM K (fun x xs H Q => ∃ a b, x = .str a ∧ xs = [.str b] ∧ Q (.bl (Txt.endswith a b)) H) dEnds := by
  intro F H x d0 vs ds d Q s bx b e k
  unfold dEnds at e
  split at e
  · cases e
    obtain ⟨v, rfl, r⟩ := b.one
    exact ⟨_, _, bx.str, by rw [r.str], k _ F H (.refl s) (.bl _)⟩
  · cases e
def dCount : D → List D → Option D
  | .str a, [.str b] => some (.int (Txt.count a b))
  | _, _ => none
theorem ref_count (K : PySem.W.Frag) : RefM K (fun x xs H Q => ∃ a b, x = .str a ∧ xs = [.str b] ∧ Q (.int (Txt.count a b)) H) dCount := by
  intro F H x d0 vs ds d Q s bx b e k
  unfold dCount at e
  split at e
  · cases e
    obtain ⟨v, rfl, r⟩ := b.one
    exact ⟨_, _, bx.str, by rw [r.str], k _ F H (.refl s) (.int _)⟩
  · cases e
/-- xs.index(y), found -/
def idxD (y : D) : List D → Option Nat
  | [] => none
  | z :: r => if PyData.eqv z y then some 0 else (idxD y r).map (· + 1)
def dLIdx : D → List D → Option D
  | .list ds, [y] => if flatD y && ds.all flatD then (idxD y ds).map fun j => .int (j : Nat) else none
  | _, _ => none
theorem idxD_spec {y : D} : ∀ {ds : List D} {j : Nat}, idxD y ds = some j → (∃ z, ds[j]? = some z ∧ PyData.eqv z y = true) ∧ ∀ (m : Nat) z, m < j → ds[m]? = some z → PyData.eqv z y = false
  | [], j, h => by cases h
  | z :: r, j, h => by
    unfold idxD at h
    split at h
    · cases h
      rename_i hz
      exact ⟨⟨z, rfl, hz⟩, fun m w hm => absurd hm (Nat.not_lt_zero _)⟩
    · rename_i hz
      cases q : idxD y r with
      | none => rw [q] at h; cases h
      | some i =>
        rw [q] at h
        cases h
        obtain ⟨⟨w, h1, h2⟩, h3⟩ := idxD_spec q
        refine ⟨⟨w, by simpa using h1, h2⟩, fun m w' hm hw => ?_⟩
        cases m with
        | zero =>
          have : z = w' := by simpa using hw
          subst this
          simpa using hz
        | succ m => exact h3 m w' (Nat.lt_of_succ_lt_succ hm) (by simpa using hw)
theorem ref_lidx (K : PySem.W.Frag) : RefM K (rIndex K) dLIdx := by
  intro F H x d0 vs ds d Q s bx b e k
  unfold dLIdx at e
  split at e
  · rename_i es y
    split at e
    · rename_i hf
      rw [Bool.and_eq_true] at hf
      cases q : idxD y es with
      | none => rw [q] at e; cases e
      | some j =>
        rw [q] at e
        cases e
        obtain ⟨v, rfl, r⟩ := b.one
        obtain ⟨p, xs, rfl, q1, q2⟩ := bx.list s
        have ry := rp_flat r hf.1
        obtain ⟨⟨z, h1, h2⟩, h3⟩ := idxD_spec q
        obtain ⟨w, hw, rw'⟩ := q2.get h1
        have fl : ∀ z ∈ es, flatD z = true := List.all_eq_true.mp hf.2
        refine ⟨p, xs, v, j, w, rfl, rfl, .inl q1, by rw [flat_of ry]; exact hf.1, by rw [flat_all q2]; exact hf.2, hw, ?_, fun m z' hm hz' => ?_, k _ F H (.refl s) (.int _)⟩
        · rw [eqV_of rw' ry (fl z (List.mem_of_getElem? h1)) hf.1]; exact h2
        · obtain ⟨dz, hd, rz⟩ := q2.getV hz'
          rw [eqV_of rz ry (fl dz (List.mem_of_getElem? hd)) hf.1]
          exact h3 m dz hm hd
    · cases e
  · cases e

/-! ## calls of the program's own defs -/
def OutF (K : PySem.W.Frag) (mg : Str → Option Value) (F H : Hp) (r : Rs D) (Q : VK) (E : XK) : Prop := match r with
  | .ok d => ∀ v F' H', Grow F H F' H' → Rp K F' v d → Q v H'
  | .ex c => ∀ C H', Same H H' → mg c = some (.ref C) → E (.ref C) none H'
  | .bad => False
def spD (K : PySem.W.Frag) (mg : Str → Option Value) (n : Nat) (M : List D → Rs D) : Sp := fun vs H Q E => ∃ F ds, Same F H ∧ RpAll K F vs ds ∧ ds.length = n ∧ OutF K mg F H (M ds) Q E
def Ok (P : Program) (w : World) (K : PySem.W.Frag) (mg : Str → Option Value) (base : Heap) (x : Str) (k : Nat) (ps : List Str) (M : List D → Rs D) : Prop :=
  ∃ f fd, FnOk P w K mg base (L2.CX P w) k f fd ps (spD K mg ps.length M) ∧ mg x = some (.ref f) ∧ PySem.W.keepIn K (.ref f) = true ∧ Binds K fd ps []
def eCall (n : Nat) (M : List D → Rs D) (fs : En → Rs (List D)) : DEx := fun ρ => (fs ρ).bind fun ds => if ds.length = n then M ds else .bad
theorem de_call {x : Str} {k : Nat} {ps : List Str} {M : List D → Rs D} {p : Pos} (h : Ok X.prog X.w X.K X.mg X.base x k ps M) (hr : Room k X.A) (tk : Takes X W) (ha : DA X W (e :: es) fs) {n : Nat} (hn : ps.length = n := by rfl) (hg : Gl X x := by rfl) (hdb : (x == ("__debug__" : Str)) = false := by decide)
    (he : starEach (e :: es) X.env = (false, eval e X.env) :: starEach es X.env := by rfl) (hpl : (backTo pos (starEach es X.env)).any (·.1) = false := by rfl) : DE X W (.Call (.Name x p) (e :: es) [] pos) (eCall n M fs) := by
  subst hn
  obtain ⟨f, fd, G, hm, hk, hb⟩ := h
  refine PE.imp (pe_callS G hr hg hm hk hb (fun σ => passAt tk σ) ha hdb he hpl) fun σ H Q ⟨ρ, F, Gd, o⟩ => args_then (O := fun F H r => OutE X.K X.mg W σ F H r Q) Gd o (fun _ _ _ o => o) (fun _ _ o => o) fun F' H' ds vs g G' o' r => ?_
  by_cases hl : ds.length = ps.length
  · rw [if_pos hl] at o'
    refine ⟨F', ds, g.sub, r, hl, ?_⟩
    cases q : M ds with
    | bad => rw [q] at o'; exact o'
    | ok d => rw [q] at o'; exact fun v F2 H2 g2 r2 => o' v F2 H2 (g.trans g2) r2
    | ex c => rw [q] at o'; exact fun C H2 s m => o' C H2 (g.h.trans s) m
  · rw [if_neg hl] at o'; exact o'.elim
end
end DL
namespace DL
open PySem PySem.Spec L2
/-! ## statements -/
inductive Fl where
  | nx (ρ : En)
  | rt (d : D)
  /-- a return that tells what the slots own -/
  | rtE (d : D) (ρ : En)
  | bk (ρ : En)
  | ct (ρ : En)
  | ex (c : Str) (ρ : En)
  | bad
abbrev DS := En → Fl
structure GoodS (K : PySem.W.Frag) (F0 H0 F H : Hp) (σ : L2.St) (ρ : En) : Prop where
  gr : Grow F0 H0 F H
  gd : Good K F H σ ρ
  fr : ∀ (i : Nat) x v a, ρ[i]? = some (some x) → σ[i]? = some (some v) → Ft H x v a → H0 a = none
theorem GoodS.grow {K : PySem.W.Frag} {F0 H0 F H F' H' : Hp} {σ : L2.St} {ρ : En} (G : GoodS K F0 H0 F H σ ρ) (g : Grow F H F' H') : GoodS K F0 H0 F' H' σ ρ := ⟨G.gr.trans g, G.gd.grow g, fun i x v a e z f => G.fr i x v a e z ((G.gd.lv e z).ft_same g.h f)⟩
theorem Grow.heap {F H H' : Hp} (s : Same F H) (h : Same H H') : Grow F H F H' := ⟨Same.refl F, h, s.trans h, fun _ _ _ x => x, fun _ _ _ x => x⟩
def OutS (K : PySem.W.Frag) (mg : Str → Option Value) (W : WX) (F0 H0 : Hp) (r : Fl) (D : Ends) : Prop := match r with
  | .nx ρ => ∀ σ F H, GoodS K F0 H0 F H σ ρ → D.nx σ H
  | .bk ρ => ∀ σ F H, GoodS K F0 H0 F H σ ρ → D.bk σ H
  | .ct ρ => ∀ σ F H, GoodS K F0 H0 F H σ ρ → D.ct σ H
  | .rt d => ∀ v F H, Grow F0 H0 F H → Rp K F v d → D.rt v H
  | .rtE d ρ => ∀ v σ F H, GoodS K F0 H0 F H σ ρ → Rp K F v d → D.rt v H
  | .ex c ρ => ∀ C σ F H, GoodS K F0 H0 F H σ ρ → mg c = some (.ref C) → W (.ref C) none σ H
  | .bad => False
def tS (K : PySem.W.Frag) (mg : Str → Option Value) (W : WX) (F0 H0 : Hp) (f : DS) : TS := fun D σ H => ∃ ρ F, GoodS K F0 H0 F H σ ρ ∧ OutS K mg W F0 H0 (f ρ) D
abbrev DSt (X : Cx) (W : WX) (F0 H0 : Hp) (st : Stmt) (f : DS) : Prop := PS X st (tS X.K X.mg W F0 H0 f)
abbrev DSs (X : Cx) (W : WX) (F0 H0 : Hp) (st : List Stmt) (f : DS) : Prop := PSs X st (tS X.K X.mg W F0 H0 f)
section
variable {X : Cx} {W : WX} {F0 H0 : Hp} {st : Stmt} {rest : List Stmt} {f g : DS} {e : Expr} {fe : DEx} {pos : Pos}
def sNil : DS := fun ρ => .nx ρ
def sSeq (f g : DS) : DS := fun ρ => match f ρ with
  | .nx ρ' => g ρ'
  | r => r
theorem dss_nil : DSs X W F0 H0 [] sNil := PSs.imp pss_nil fun D σ H ⟨ρ, F, G, o⟩ => o σ F H G
theorem dss_cons (h1 : DSt X W F0 H0 st f) (h2 : DSs X W F0 H0 rest g) : DSs X W F0 H0 (st :: rest) (sSeq f g) :=
  PSs.imp (pss_cons h1 h2) fun D σ H ⟨ρ, F, G, o⟩ => by
    refine ⟨ρ, F, G, ?_⟩
    unfold sSeq at o
    cases q : f ρ with
    | nx ρ' =>
      rw [q] at o
      exact fun σ' F' H' G' => ⟨ρ', F', G', o⟩
    | rt d => rw [q] at o; exact o
    | rtE d ρ' => rw [q] at o; exact o
    | bk ρ' => rw [q] at o; exact o
    | ct ρ' => rw [q] at o; exact o
    | ex c ρ' => rw [q] at o; exact o
    | bad => rw [q] at o; exact o
theorem dss_one (h1 : DSt X W F0 H0 st f) : DSs X W F0 H0 [st] f := pss_one h1
/-- from an expression's value on, in a statement -/
def sBind {α : Type} (r : Rs α) (ρ : En) (k : α → Fl) : Fl := match r with
  | .ok a => k a
  | .ex c => .ex c ρ
  | .bad => .bad
theorem exS {D : Ends} {σ : L2.St} {F H : Hp} {ρ : En} {c : Str} (G : GoodS X.K F0 H0 F H σ ρ) (o : OutS X.K X.mg W F0 H0 (.ex c ρ) D) : ∀ C H', Same H H' → X.mg c = some (.ref C) → W (.ref C) none σ H' :=
  fun C H' s m => o C σ F H' (G.grow (Grow.heap G.gd.sub s)) m
theorem expS {D : Ends} {σ : L2.St} {F H : Hp} {ρ : En} {k : PyData → Fl} {R : VK} (G : GoodS X.K F0 H0 F H σ ρ) (o : OutS X.K X.mg W F0 H0 (sBind (fe ρ) ρ k) D)
    (hk : ∀ F' H' d v, Grow F H F' H' → OutS X.K X.mg W F0 H0 (k d) D → GoodS X.K F0 H0 F' H' σ ρ → Rp X.K F' v d → R v H') : tE X.K X.mg W fe σ H R := by
  refine ⟨ρ, F, G.gd, ?_⟩
  unfold sBind at o
  cases q : fe ρ with
  | bad => rw [q] at o; exact o
  | ex c => rw [q] at o; exact exS G o
  | ok d =>
    rw [q] at o
    exact fun v F' H' g r => hk F' H' d v g o (G.grow g) r
theorem expSb {D : Ends} {σ : L2.St} {F H : Hp} {ρ : En} {k : PyData → Fl} {R : VK} (G : GoodS X.K F0 H0 F H σ ρ) (o : OutS X.K X.mg W F0 H0 (sBind (fe ρ) ρ k) D)
    (hk : ∀ F' H' d v, Grow F H F' H' → OutS X.K X.mg W F0 H0 (k d) D → GoodS X.K F0 H0 F' H' σ ρ → Bp X.K F' H' v d → R v H') : tB X.K X.mg W fe σ H R := by
  refine ⟨ρ, F, G.gd, ?_⟩
  unfold sBind at o
  cases q : fe ρ with
  | bad => rw [q] at o; exact o
  | ex c => rw [q] at o; exact exS G o
  | ok d =>
    rw [q] at o
    exact fun v F' H' g r => hk F' H' d v g o (G.grow g) r
theorem tstS {ge : En → Rs Bool} {D : Ends} {σ : L2.St} {F H : Hp} {ρ : En} {k : Bool → Fl} {R : Bool → Hp → Prop} (G : GoodS X.K F0 H0 F H σ ρ) (o : OutS X.K X.mg W F0 H0 (sBind (ge ρ) ρ k) D)
    (hk : ∀ F' H' b, Grow F H F' H' → OutS X.K X.mg W F0 H0 (k b) D → GoodS X.K F0 H0 F' H' σ ρ → R b H') : tT X.K X.mg W ge σ H R := by
  refine ⟨ρ, F, G.gd, ?_⟩
  unfold sBind at o
  cases q : ge ρ with
  | bad => rw [q] at o; exact o
  | ex c => rw [q] at o; exact exS G o
  | ok d =>
    rw [q] at o
    exact fun F' H' g => hk F' H' d g o (G.grow g)
def sExpr (fe : DEx) : DS := fun ρ => sBind (fe ρ) ρ fun _ => .nx ρ
theorem ds_expr (h : DE X W e fe) (hs : swapsWith e none pos.line X.env = pure false := by rfl) : DSt X W F0 H0 (.Expr e pos) (sExpr fe) :=
  PS.imp (ps_expr h hs) fun D σ H ⟨ρ, F, G, o⟩ => expS G o fun F' H' d v g o' G' r => o' σ F' H' G'
def sRet (fe : DEx) : DS := fun ρ => sBind (fe ρ) ρ fun d => .rt d
theorem ds_ret (h : DE X W e fe) : DSt X W F0 H0 (.Return (some e) pos) (sRet fe) :=
  PS.imp (ps_ret h) fun D σ H ⟨ρ, F, G, o⟩ => expS G o fun F' H' d v g o' G' r => o' v F' H' G'.gr r
def sRetE (fe : DEx) : DS := fun ρ => sBind (fe ρ) ρ fun d => .rtE d ρ
theorem ds_retE (h : DE X W e fe) : DSt X W F0 H0 (.Return (some e) pos) (sRetE fe) :=
  PS.imp (ps_ret h) fun D σ H ⟨ρ, F, G, o⟩ => expS G o fun F' H' d v g o' G' r => o' v σ F' H' G' r
def sPass : DS := fun ρ => .nx ρ
theorem ds_pass : DSt X W F0 H0 (.Pass pos) sPass := PS.imp ps_pass fun D σ H ⟨ρ, F, G, o⟩ => o σ F H G
def sBreak : DS := fun ρ => .bk ρ
theorem ds_break : DSt X W F0 H0 (.Break pos) sBreak := PS.imp ps_break fun D σ H ⟨ρ, F, G, o⟩ => o σ F H G
def sIf (ge : En → Rs Bool) (f g : DS) : DS := fun ρ => sBind (ge ρ) ρ fun b => if b then f ρ else g ρ
theorem ds_if {a b : List Stmt} {ge : En → Rs Bool} (hc : DT X W e ge) (ha : DSs X W F0 H0 a f) (hb : DSs X W F0 H0 b g) : DSt X W F0 H0 (.If e a b pos) (sIf ge f g) :=
  PS.imp (ps_if hc ha hb) fun D σ H ⟨ρ, F, G, o⟩ => tstS G o fun F' H' b g o' G' => by
    cases b with
    | true => exact ⟨ρ, F', G', o'⟩
    | false => exact ⟨ρ, F', G', o'⟩
/-- code that is never reached -/
def sNever : DS := fun _ => .bad
theorem ds_never : DSt X W F0 H0 st sNever := PS.imp ps_never fun D σ H ⟨ρ, F, G, o⟩ => o
theorem dss_never {sts : List Stmt} : DSs X W F0 H0 sts sNever := PSs.imp pss_never fun D σ H ⟨ρ, F, G, o⟩ => o
def eNever : DEx := fun _ => .bad
theorem de_never : DE X W e eNever := ⟨fun pins s σ H Q I ⟨ρ, F, G, o⟩ => o.elim⟩

/-! ### stores -/
theorem get_set_eq {α : Type} {l : List α} {i : Nat} {x y : α} (h : (l.set i x)[i]? = some y) : y = x ∧ i < l.length := by
  have hi : i < l.length := by
    have := (List.getElem?_eq_some_iff.mp h).1
    simpa using this
  rw [List.getElem?_set_self hi] at h
  exact ⟨(Option.some.inj h).symm, hi⟩
/-- slot i gets what owns nothing -/
theorem GoodS.putL {F H : Hp} {σ : L2.St} {ρ : En} {i : Nat} {v : V} {y : LV} (G : GoodS X.K F0 H0 F H σ ρ) (r : LvOk X.K F H y v) (oy : y.isOwn = false) : GoodS X.K F0 H0 F H (σ.set i (some v)) (ρ.set i (some y)) := by
  have key : ∀ (j : Nat) x w a, (ρ.set i (some y))[j]? = some (some x) → (σ.set i (some v))[j]? = some (some w) → Ft H x w a → j ≠ i ∧ ρ[j]? = some (some x) ∧ σ[j]? = some (some w) := fun j x w a e z f => by
    have hj : j ≠ i := by
      rintro rfl
      obtain ⟨e1, _⟩ := get_set_eq e
      cases e1
      rw [f.own] at oy; cases oy
    rw [List.getElem?_set_ne (Ne.symm hj)] at e z
    exact ⟨hj, e, z⟩
  refine ⟨G.gr, ⟨G.gd.sub, by simp [G.gd.len], fun j x e => ?_, fun j k x y v w a ej ek sj sk f1 f2 ne => ?_⟩, fun j x w a e z f => ?_⟩
  · by_cases hj : j = i
    · subst hj
      obtain ⟨e1, hi⟩ := get_set_eq e
      cases e1
      exact ⟨v, List.getElem?_set_self (by rw [G.gd.len]; exact hi), r⟩
    · rw [List.getElem?_set_ne (Ne.symm hj)] at e ⊢
      exact G.gd.at_ j x e
  · obtain ⟨_, a1, a2⟩ := key j x v a ej sj f1
    obtain ⟨_, b1, b2⟩ := key k y w a ek sk f2
    exact G.gd.dis j k x y v w a a1 b1 a2 b2 f1 f2 ne
  · obtain ⟨_, a1, a2⟩ := key j x w a e z f
    exact G.fr j x w a a1 a2 f
/-- slot i gets frozen data -/
theorem GoodS.put {F H : Hp} {σ : L2.St} {ρ : En} {i : Nat} {v : V} {d : PyData} (G : GoodS X.K F0 H0 F H σ ρ) (r : Rp X.K F v d) : GoodS X.K F0 H0 F H (σ.set i (some v)) (ρ.set i (some (.fz d))) := G.putL (y := .fz d) r rfl
/-- slot i gets what is its own -/
theorem GoodS.putO {F H : Hp} {σ : L2.St} {ρ : En} {i : Nat} {v : V} {x : LV} (G : GoodS X.K F0 H0 F H σ ρ) (ok : LvOk X.K F H x v) (n0 : ∀ a, Ft H x v a → H0 a = none) (ne : ∀ (j : Nat) y w a, j ≠ i → ρ[j]? = some (some y) → σ[j]? = some (some w) → Ft H y w a → Ft H x v a → False) :
    GoodS X.K F0 H0 F H (σ.set i (some v)) (ρ.set i (some x)) := by
  have key : ∀ (j : Nat) y w, (ρ.set i (some x))[j]? = some (some y) → (σ.set i (some v))[j]? = some (some w) → (j = i ∧ y = x ∧ w = v) ∨ (j ≠ i ∧ ρ[j]? = some (some y) ∧ σ[j]? = some (some w)) := fun j y w e z => by
    by_cases hj : j = i
    · subst hj
      obtain ⟨e1, _⟩ := get_set_eq e
      obtain ⟨z1, _⟩ := get_set_eq z
      cases e1; cases z1
      exact .inl ⟨rfl, rfl, rfl⟩
    · rw [List.getElem?_set_ne (Ne.symm hj)] at e z
      exact .inr ⟨hj, e, z⟩
  refine ⟨G.gr, ⟨G.gd.sub, by simp [G.gd.len], fun j z e => ?_, fun j k y z u w a ej ek sj sk f1 f2 nejk => ?_⟩, fun j z w a e zz f => ?_⟩
  · by_cases hj : j = i
    · subst hj
      obtain ⟨e1, hi⟩ := get_set_eq e
      cases e1
      exact ⟨v, List.getElem?_set_self (by rw [G.gd.len]; exact hi), ok⟩
    · rw [List.getElem?_set_ne (Ne.symm hj)] at e ⊢
      exact G.gd.at_ j z e
  · rcases key j y u ej sj with ⟨rfl, rfl, rfl⟩ | ⟨hj, a1, a2⟩
    · rcases key k z w ek sk with ⟨rfl, rfl, rfl⟩ | ⟨hk, b1, b2⟩
      · exact nejk rfl
      · exact ne k z w a hk b1 b2 f2 f1
    · rcases key k z w ek sk with ⟨rfl, rfl, rfl⟩ | ⟨hk, b1, b2⟩
      · exact ne j y u a hj a1 a2 f1 f2
      · exact G.gd.dis j k y z u w a a1 b1 a2 b2 f1 f2 nejk
  · rcases key j z w e zz with ⟨rfl, rfl, rfl⟩ | ⟨hj, a1, a2⟩
    · exact n0 a f
    · exact G.fr j z w a a1 a2 f
/-- p is changed by slot j -/
def FtA (σ : L2.St) (H : Hp) (j : Nat) (y : LV) (p : Addr) : Prop := ∃ w, σ[j]? = some (some w) ∧ Ft H y w p
/-- slot i gets a new list (or dict) of its own -/
theorem GoodS.putOwn {F H : Hp} {σ : L2.St} {ρ : En} {i : Nat} {p : Addr} {x : LV} (G : GoodS X.K F0 H0 F H σ ρ) (ok : LvOk X.K F H x (.ref p)) (n0 : H0 p = none) (ne : ∀ (j : Nat) y, j ≠ i → ρ[j]? = some (some y) → y.isOwn = true → FtA σ H j y p → False) (o1 : x.one = true := by rfl) :
    GoodS X.K F0 H0 F H (σ.set i (some (.ref p))) (ρ.set i (some x)) :=
  G.putO ok (fun a f => by
    have := (Ft.one o1).mp f
    cases this; exact n0) (fun j y w a hj ej sj f1 f2 => by
    have := (Ft.one o1).mp f2
    cases this
    exact ne j y hj ej f1.own ⟨w, sj, f1⟩)
theorem Good.own_at {F H H' : Hp} {σ : L2.St} {ρ : En} {j : Nat} {y : LV} {p : Addr} (G : Good X.K F H σ ρ) (s : Same H H') (e : ρ[j]? = some (some y)) (o : y.isOwn = true) (z : FtA σ H' j y p) : ∃ u, H p = some u ∧ F p = none := by
  obtain ⟨w, z, f⟩ := z
  have l := G.lv e z
  exact l.ft (l.ft_same s f)
def sAsg (i : Nat) (fe : DEx) : DS := fun ρ => sBind (fe ρ) ρ fun d => .nx (ρ.set i (some (.fz d)))
theorem ds_asg {i : Nat} {x : Str} {pos' : Pos} (hN : X.N.Nodup) (he : DE X W e fe) (hi : X.N[i]? = some x := by rfl) (hx : Loc X.env.scope x := by first | exact Or.inl rfl | exact Or.inr rfl) (hs : swapsWith e (some (.Name x pos')) pos.line X.env = pure false := by rfl) (hf : X.fn x = true ∨ X.env.scope.names.lookup x = some .local := by first | exact .inl rfl | exact .inr rfl) :
    DSt X W F0 H0 (.Assign [.Name x pos'] e pos) (sAsg i fe) :=
  PS.imp (ps_set hN hi hx he hs hf) fun D σ H ⟨ρ, F, G, o⟩ => expS G o fun F' H' d v g o' G' r => o' _ F' H' (G'.put r)
/-- x = a new list that will be changed -/
def sOwn (i : Nat) (fe : En → Rs (List PyData)) : DS := fun ρ => sBind (fe ρ) ρ fun ds => .nx (ρ.set i (some (.own ds)))
theorem newS {fn : En → Rs (List PyData)} {D : Ends} {σ : L2.St} {F H : Hp} {ρ : En} {k : List PyData → Fl} {R : VK} (G : GoodS X.K F0 H0 F H σ ρ) (o : OutS X.K X.mg W F0 H0 (sBind (fn ρ) ρ k) D)
    (hk : ∀ F' H' ds p xs, Grow F H F' H' → OutS X.K X.mg W F0 H0 (k ds) D → GoodS X.K F0 H0 F' H' σ ρ → H p = none → F' p = none → H' p = some (.lst xs) → RpAll X.K F' xs ds → R (.ref p) H') : tN X.K X.mg W fn σ H R := by
  refine ⟨ρ, F, G.gd, ?_⟩
  unfold sBind at o
  cases q : fn ρ with
  | bad => rw [q] at o; exact o
  | ex c => rw [q] at o; exact exS G o
  | ok d =>
    rw [q] at o
    exact fun p xs F' H' g h1 h2 h3 r => hk F' H' d p xs g o (G.grow g) h1 h2 h3 r
theorem ds_own {i : Nat} {x : Str} {pos' : Pos} {fn : En → Rs (List PyData)} (hN : X.N.Nodup) (he : DN X W e fn) (hi : X.N[i]? = some x := by rfl) (hx : Loc X.env.scope x := by first | exact Or.inl rfl | exact Or.inr rfl) (hs : swapsWith e (some (.Name x pos')) pos.line X.env = pure false := by rfl) (hf : X.fn x = true ∨ X.env.scope.names.lookup x = some .local := by first | exact .inl rfl | exact .inr rfl) :
    DSt X W F0 H0 (.Assign [.Name x pos'] e pos) (sOwn i fn) :=
  PS.imp (ps_set hN hi hx he hs hf) fun D σ H ⟨ρ, F, G, o⟩ => newS G o fun F' H' ds p xs g o' G' n1 n2 h r =>
    o' _ F' H' (G'.putOwn (x := .own ds) ⟨p, xs, rfl, h, n2, r⟩ (G.gr.h.free n1) fun j y hj ej oy z => by
      obtain ⟨u, hu, _⟩ := G.gd.own_at g.h ej oy z
      rw [n1] at hu; cases hu)
/-- freeze an owned list (nothing is done) -/
def fzAt (i : Nat) (ρ : En) : En := match ρ[i]? with
  | some (some (.own ds)) => ρ.set i (some (.fz (.list ds)))
  | _ => ρ
theorem GoodS.fz {F H : Hp} {σ : L2.St} {ρ : En} (i : Nat) (G : GoodS X.K F0 H0 F H σ ρ) : ∃ F', GoodS X.K F0 H0 F' H σ (fzAt i ρ) := by
  unfold fzAt
  split
  · rename_i ds e
    obtain ⟨v, h1, p, xs, rfl, h2, h3, h4⟩ := G.gd.at_ i _ e
    have n0 := G.fr i _ _ p e h1 rfl
    have sF : Same F (upd F p (.lst xs)) := same_upd h3
    have sH : Same (upd F p (.lst xs)) H := fun b u z => by
      by_cases hb : b = p
      · subst hb; rw [upd_same] at z; cases z; exact h2
      · rw [upd_ne hb] at z; exact G.gd.sub _ _ z
    have key : ∀ (j : Nat) x w a, (ρ.set i (some (.fz (.list ds))))[j]? = some (some x) → σ[j]? = some (some w) → Ft H x w a → j ≠ i ∧ ρ[j]? = some (some x) := fun j x w a ej z f => by
      have hj : j ≠ i := by
        rintro rfl
        obtain ⟨e1, _⟩ := get_set_eq ej
        cases e1; exact f.elim
      rw [List.getElem?_set_ne (Ne.symm hj)] at ej
      exact ⟨hj, ej⟩
    refine ⟨upd F p (.lst xs), ⟨⟨G.gr.f.trans sF, G.gr.h, sH, fun q u hq fq => ?_, fun b o' u z => G.gr.nz b o' u (nz_upd (by intro _ _ h; cases h) b o' u z)⟩, ⟨sH, by simp [G.gd.len], fun j x ej => ?_, fun j k x y v w a ej ek sj sk f1 f2 ne => ?_⟩, fun j x w a ej z f => ?_⟩⟩
    · rw [upd_ne (ne_of_none hq n0)]; exact G.gr.new q u hq fq
    · by_cases hj : j = i
      · subst hj
        obtain ⟨e1, hi⟩ := get_set_eq ej
        cases e1
        exact ⟨_, h1, .lst (.inl upd_same) (h4.mono sF)⟩
      · rw [List.getElem?_set_ne (Ne.symm hj)] at ej
        obtain ⟨w, w1, w2⟩ := G.gd.at_ j x ej
        refine ⟨w, w1, w2.frame sF (fun _ _ _ z => z) fun b fb => ?_⟩
        have nb : b ≠ p := by
          rintro rfl
          exact G.gd.dis j i _ _ _ _ _ ej e w1 h1 fb rfl hj
        rw [upd_ne nb]
        exact (w2.ft fb).choose_spec.2
    · obtain ⟨_, a1⟩ := key j x v a ej sj f1
      obtain ⟨_, b1⟩ := key k y w a ek sk f2
      exact G.gd.dis j k x y v w a a1 b1 sj sk f1 f2 ne
    · obtain ⟨_, a1⟩ := key j x w a ej z f
      exact G.fr j x w a a1 z f
  · exact ⟨F, G⟩
def sFz (i : Nat) (f : DS) : DS := fun ρ => f (fzAt i ρ)
theorem ds_fz (i : Nat) (h : DSt X W F0 H0 st f) : DSt X W F0 H0 st (sFz i f) := PS.imp h fun D σ H ⟨ρ, F, G, o⟩ => by
  obtain ⟨F', G'⟩ := G.fz i
  exact ⟨_, F', G', o⟩
/-- what slot i owns is changed -/
theorem GoodS.updG {F H H' : Hp} {σ : L2.St} {ρ : En} {i : Nat} {v : V} {x x' : LV} (G : GoodS X.K F0 H0 F H σ ρ) (e : ρ[i]? = some (some x)) (h1 : σ[i]? = some (some v)) (hs : ∀ b u, ¬ Ft H x v b → H b = some u → H' b = some u) (ok : LvOk X.K F H' x' v)
    (hf : ∀ a, Ft H' x' v a → Ft H x v a ∨ H a = none) : GoodS X.K F0 H0 F H' σ (ρ.set i (some x')) := by
  have l := G.gd.lv e h1
  have sF : Same F H' := fun b w z => hs b w (fun f => by
    obtain ⟨_, _, n⟩ := l.ft f
    rw [z] at n; cases n) (G.gd.sub _ _ z)
  have oth : ∀ (j : Nat) y w, j ≠ i → ρ[j]? = some (some y) → σ[j]? = some (some w) → ∀ b u, Ft H y w b → H b = some u → H' b = some u := fun j y w hj ej sj b u fb hb => hs b u (fun f => G.gd.dis j i y x w v b ej e sj h1 fb f hj) hb
  have key : ∀ (j : Nat) y w a, (ρ.set i (some x'))[j]? = some (some y) → σ[j]? = some (some w) → Ft H' y w a → (j = i ∧ (Ft H x v a ∨ H a = none)) ∨ (j ≠ i ∧ ρ[j]? = some (some y) ∧ Ft H y w a) := fun j y w a ej sj f => by
    by_cases hj : j = i
    · subst hj
      obtain ⟨e1, _⟩ := get_set_eq ej
      cases e1
      cases sj.symm.trans h1
      exact .inl ⟨rfl, hf a f⟩
    · rw [List.getElem?_set_ne (Ne.symm hj)] at ej
      exact .inr ⟨hj, ej, (G.gd.lv ej sj).ft_to (oth j y w hj ej sj) f⟩
  refine ⟨⟨G.gr.f, fun b w z => hs b w (fun f => by have := G.fr i x v b e h1 f; rw [z] at this; cases this) (G.gr.h _ _ z), sF, G.gr.new, G.gr.nz⟩, ⟨sF, by simp [G.gd.len], fun j y ej => ?_, fun j k y z u w a ej ek sj sk f1 f2 ne => ?_⟩, fun j y w a ej z f => ?_⟩
  · by_cases hj : j = i
    · subst hj
      obtain ⟨e1, hi⟩ := get_set_eq ej
      cases e1
      exact ⟨_, h1, ok⟩
    · rw [List.getElem?_set_ne (Ne.symm hj)] at ej
      obtain ⟨w, w1, w2⟩ := G.gd.at_ j y ej
      exact ⟨w, w1, w2.frame (Same.refl F) (oth j y w hj ej w1) fun b fb => (w2.ft fb).choose_spec.2⟩
  · rcases key j y u a ej sj f1 with ⟨rfl, g1⟩ | ⟨hj, a1, a2⟩
    · rcases key k z w a ek sk f2 with ⟨rfl, _⟩ | ⟨hk, b1, b2⟩
      · exact ne rfl
      · rcases g1 with g1 | g1
        · exact G.gd.dis k j z x w v a b1 e sk h1 b2 g1 hk
        · obtain ⟨q, hq, _⟩ := (G.gd.lv b1 sk).ft b2
          rw [g1] at hq; cases hq
    · rcases key k z w a ek sk f2 with ⟨rfl, g2⟩ | ⟨hk, b1, b2⟩
      · rcases g2 with g2 | g2
        · exact G.gd.dis j k y x u v a a1 e sj h1 a2 g2 hj
        · obtain ⟨q, hq, _⟩ := (G.gd.lv a1 sj).ft a2
          rw [g2] at hq; cases hq
      · exact G.gd.dis j k y z u w a a1 b1 sj sk a2 b2 ne
  · rcases key j y w a ej z f with ⟨rfl, g1 | g1⟩ | ⟨hj, a1, a2⟩
    · exact G.fr j x v a e h1 g1
    · exact G.gr.h.free g1
    · exact G.fr j y w a a1 z a2
/-- what slot i owns is changed; what comes to it is nobody's -/
theorem GoodS.updN {F H H' : Hp} {σ : L2.St} {ρ : En} {i : Nat} {v : V} {x x' : LV} (G : GoodS X.K F0 H0 F H σ ρ) (e : ρ[i]? = some (some x)) (h1 : σ[i]? = some (some v)) (hs : ∀ b u, ¬ Ft H x v b → H b = some u → H' b = some u) (ok : LvOk X.K F H' x' v)
    (hf : ∀ a, Ft H' x' v a → Ft H x v a ∨ (H0 a = none ∧ ∀ (j : Nat) y w, j ≠ i → ρ[j]? = some (some y) → σ[j]? = some (some w) → ¬ Ft H y w a)) : GoodS X.K F0 H0 F H' σ (ρ.set i (some x')) := by
  have l := G.gd.lv e h1
  have sF : Same F H' := fun b w z => hs b w (fun f => by
    obtain ⟨_, _, n⟩ := l.ft f
    rw [z] at n; cases n) (G.gd.sub _ _ z)
  have oth : ∀ (j : Nat) y w, j ≠ i → ρ[j]? = some (some y) → σ[j]? = some (some w) → ∀ b u, Ft H y w b → H b = some u → H' b = some u := fun j y w hj ej sj b u fb hb => hs b u (fun f => G.gd.dis j i y x w v b ej e sj h1 fb f hj) hb
  have key : ∀ (j : Nat) y w a, (ρ.set i (some x'))[j]? = some (some y) → σ[j]? = some (some w) → Ft H' y w a → (j = i ∧ (Ft H x v a ∨ (H0 a = none ∧ ∀ (j : Nat) y w, j ≠ i → ρ[j]? = some (some y) → σ[j]? = some (some w) → ¬ Ft H y w a))) ∨ (j ≠ i ∧ ρ[j]? = some (some y) ∧ Ft H y w a) := fun j y w a ej sj f => by
    by_cases hj : j = i
    · subst hj
      obtain ⟨e1, _⟩ := get_set_eq ej
      cases e1
      cases sj.symm.trans h1
      exact .inl ⟨rfl, hf a f⟩
    · rw [List.getElem?_set_ne (Ne.symm hj)] at ej
      exact .inr ⟨hj, ej, (G.gd.lv ej sj).ft_to (oth j y w hj ej sj) f⟩
  refine ⟨⟨G.gr.f, fun b w z => hs b w (fun f => by have := G.fr i x v b e h1 f; rw [z] at this; cases this) (G.gr.h _ _ z), sF, G.gr.new, G.gr.nz⟩, ⟨sF, by simp [G.gd.len], fun j y ej => ?_, fun j k y z u w a ej ek sj sk f1 f2 ne => ?_⟩, fun j y w a ej z f => ?_⟩
  · by_cases hj : j = i
    · subst hj
      obtain ⟨e1, hi⟩ := get_set_eq ej
      cases e1
      exact ⟨_, h1, ok⟩
    · rw [List.getElem?_set_ne (Ne.symm hj)] at ej
      obtain ⟨w, w1, w2⟩ := G.gd.at_ j y ej
      exact ⟨w, w1, w2.frame (Same.refl F) (oth j y w hj ej w1) fun b fb => (w2.ft fb).choose_spec.2⟩
  · rcases key j y u a ej sj f1 with ⟨rfl, g1⟩ | ⟨hj, a1, a2⟩
    · rcases key k z w a ek sk f2 with ⟨rfl, _⟩ | ⟨hk, b1, b2⟩
      · exact ne rfl
      · rcases g1 with g1 | g1
        · exact G.gd.dis k j z x w v a b1 e sk h1 b2 g1 hk
        · exact g1.2 k z w hk b1 sk b2
    · rcases key k z w a ek sk f2 with ⟨rfl, g2⟩ | ⟨hk, b1, b2⟩
      · rcases g2 with g2 | g2
        · exact G.gd.dis j k y x u v a a1 e sj h1 a2 g2 hj
        · exact g2.2 j y u hj a1 sj a2
      · exact G.gd.dis j k y z u w a a1 b1 sj sk a2 b2 ne
  · rcases key j y w a ej z f with ⟨rfl, g1 | g1⟩ | ⟨hj, a1, a2⟩
    · exact G.fr j x v a e h1 g1
    · exact g1.1
    · exact G.fr j y w a a1 z a2
/-- an owned object is changed -/
theorem GoodS.upd {F H : Hp} {σ : L2.St} {ρ : En} {i : Nat} {p : Addr} {x x' : LV} {o : HO} (G : GoodS X.K F0 H0 F H σ ρ) (e : ρ[i]? = some (some x)) (ox : x.one = true) (h1 : σ[i]? = some (some (.ref p))) (ox' : x'.one = true) (ok : LvOk X.K F (upd H p o) x' (.ref p)) :
    GoodS X.K F0 H0 F (upd H p o) σ (ρ.set i (some x')) :=
  G.updG e h1 (fun b u nf hb => by
    have nb : b ≠ p := by
      rintro rfl
      exact nf ((Ft.one ox).mpr rfl)
    rw [upd_ne nb]; exact hb) ok fun a f => .inl ((Ft.one ox).mpr ((Ft.one ox').mp f))
end
end DL
namespace DL
open PySem PySem.Spec L2
section
variable {X : Cx} {W : WX} {F0 H0 : Hp} {st : Stmt} {rest : List Stmt} {f g : DS} {e : Expr} {fe fi : DEx} {pos : Pos}
/-! ### changes of an owned list -/
def ownAt (ρ : En) (i : Nat) : Rs (List PyData) := match ρ[i]? with
  | some (some (.own ds)) => .ok ds
  | _ => .bad
theorem ownAt_ok {ρ : En} {i : Nat} {ds : List PyData} (h : ownAt ρ i = .ok ds) : ρ[i]? = some (some (.own ds)) := by
  unfold ownAt at h
  split at h
  · cases h; assumption
  · cases h
theorem ownAt_no_ex {ρ : En} {i : Nat} {c : Str} (h : ownAt ρ i = .ex c) : False := by
  unfold ownAt at h
  split at h <;> cases h
/-- x.append(e) -/
def sApp (i : Nat) (fe : DEx) : DS := fun ρ => sBind (ownAt ρ i) ρ fun ds => sBind (fe ρ) ρ fun d => if ds.length < sizeLine then .nx (ρ.set i (some (.own (ds ++ [d])))) else .bad
theorem ds_app {i : Nat} {x : Str} {p apos cpos : Pos} (he : DE X W e fe) (hN : X.N[i]? = some x := by rfl) (hv : Vis X.env.scope x := by first | exact Or.inl rfl | exact Or.inr (Or.inl rfl) | exact Or.inr (Or.inr rfl)) (hd : (x == ("__debug__" : Str)) = false := by decide) (hcd : (x == ("__classdict__" : Str)) = false := by decide)
    (hbase : attributeBase (.Name x p) "append" X.env (eval (.Name x p) X.env) = eval (.Name x p) X.env := by rfl)
    (hfew : ((backTo cpos (starEach (e :: []) X.env)).all (fun x => !x.1) && (backToKw cpos (keywordEach [] X.env)).all (fun x => x.1.isSome)
      && decide ((e :: []).length + ([] : List Keyword).length + (if ([] : List Keyword).isEmpty then 0 else 1) < 30)) = true := by rfl)
    (hline : (apos.endLine == cpos.line) = true := by rfl) (hs : starEach (e :: []) X.env = (false, eval e X.env) :: starEach [] X.env := by rfl) (hplain : (backTo cpos (starEach [] X.env)).any (·.1) = false := by rfl)
    (hsw : swapsWith (.Call (.Attribute (.Name x p) "append" apos) [e] [] cpos) none pos.line X.env = pure false := by rfl) :
    DSt X W F0 H0 (.Expr (.Call (.Attribute (.Name x p) "append" apos) [e] [] cpos) pos) (sApp i fe) :=
  PS.imp (ps_expr (pe_bm PySem.F.plainAttrs_list PySem.F.slot_list_append PySem.F.type_list_append mt_append (pe_var hN hv hd hcd) (pa_cons he pa_nil hs) hbase hfew hline hs hplain) hsw) fun D σ H ⟨ρ, F, G, o⟩ => by
    unfold sApp at o
    cases q : ownAt ρ i with
    | bad => rw [q] at o; exact o.elim
    | ex c => exact (ownAt_no_ex q).elim
    | ok ds =>
      rw [q] at o
      have ei := ownAt_ok q
      obtain ⟨v, h1, p, xs, rfl, h2, h3, h4⟩ := G.gd.at_ i _ ei
      refine ⟨.ref p, h1, .inl ⟨rfl, xs, SqL.of h2⟩, ?_⟩
      refine expS G o fun F' H' d w gr o' G' r => ?_
      split at o'
      · rename_i hl
        have h2' := gr.h _ _ h2
        refine ⟨p, xs, w, rfl, rfl, h2', by rw [h4.length]; exact hl, ?_⟩
        refine o' σ F' _ (G'.upd ei rfl h1 rfl ⟨p, _, rfl, upd_same, gr.new p _ h2 h3, (h4.mono gr.f).append (.cons r .nil)⟩)
      · exact o'.elim
open PyProof.Rows in
def rExtendR : V → List V → Hp → VK → Prop := fun x vs H Q => ∃ l b xs zs, x = .ref l ∧ vs = [.ref b] ∧ H l = some (.lst xs) ∧ Rd H b (.lst zs) ∧ xs.length + zs.length ≤ sizeLine ∧ Q .non (L2.upd H l (.lst (xs ++ zs)))
open PyProof.Rows PySem.Builtin in
theorem mt_extendR : MtM X "list.extend" rExtendR := by
  intro pins s σ H x vs v us Q I rx rv h
  obtain ⟨l, b, xs, zs, rfl, rfl, hH, hB, hz, q⟩ := h
  cases rx
  obtain ⟨u, rfl, ru⟩ := Vals.one rv
  cases ru
  obtain ⟨z, its, n, r, hl, e⟩ := I.lstM hH
  obtain ⟨z2, its2, n2, r2, hl2, e2⟩ := rd_lst I hB
  have hsz : its.toArray.size + its2.toArray.size ≤ sizeLine := by rw [List.size_toArray, List.size_toArray]; omega
  have hlong : ¬ (!its.toArray.isEmpty && Builtin.List.listTooLong (its.toArray.size + its2.toArray.size)) = true := by
    rw [notLongL hsz, Bool.and_false]
    exact Bool.false_ne_true
  refine call_meets F.slot_list_extend ⟨_, e, rfl⟩ F.entry_list_extend (F.args_list_extend_2 _ _)
    (AutoSeq1.list_extend_list_list_0 l its.toArray n b its2.toArray n2 hlong (by rw [List.size_toArray]; omega) (by omega)) ⟨e, e2, ?_⟩
  refine ⟨.non, _, I.lset (its' := its ++ its2) hH e (by simp) (r.append r2) ?_, rfl, q⟩
  rw [List.length_append]
  omega
/-- x.extend(e), e a list -/
def sExt (i : Nat) (fe : DEx) : DS := fun ρ => sBind (ownAt ρ i) ρ fun ds => sBind (fe ρ) ρ fun d => match d with
  | .list es => if ds.length + es.length ≤ sizeLine then .nx (ρ.set i (some (.own (ds ++ es)))) else .bad
  | _ => .bad
theorem ds_ext {i : Nat} {x : Str} {p apos cpos : Pos} (he : DB X W e fe) (hN : X.N[i]? = some x := by rfl) (hv : Vis X.env.scope x := by first | exact Or.inl rfl | exact Or.inr (Or.inl rfl) | exact Or.inr (Or.inr rfl)) (hd : (x == ("__debug__" : Str)) = false := by decide) (hcd : (x == ("__classdict__" : Str)) = false := by decide)
    (hbase : attributeBase (.Name x p) "extend" X.env (eval (.Name x p) X.env) = eval (.Name x p) X.env := by rfl)
    (hfew : ((backTo cpos (starEach (e :: []) X.env)).all (fun x => !x.1) && (backToKw cpos (keywordEach [] X.env)).all (fun x => x.1.isSome)
      && decide ((e :: []).length + ([] : List Keyword).length + (if ([] : List Keyword).isEmpty then 0 else 1) < 30)) = true := by rfl)
    (hline : (apos.endLine == cpos.line) = true := by rfl) (hs : starEach (e :: []) X.env = (false, eval e X.env) :: starEach [] X.env := by rfl) (hplain : (backTo cpos (starEach [] X.env)).any (·.1) = false := by rfl)
    (hsw : swapsWith (.Call (.Attribute (.Name x p) "extend" apos) [e] [] cpos) none pos.line X.env = pure false := by rfl) :
    DSt X W F0 H0 (.Expr (.Call (.Attribute (.Name x p) "extend" apos) [e] [] cpos) pos) (sExt i fe) :=
  PS.imp (ps_expr (pe_bm PySem.F.plainAttrs_list PySem.F.slot_list_extend PySem.F.type_list_extend mt_extendR (pe_var hN hv hd hcd) (pa_cons he pa_nil hs) hbase hfew hline hs hplain) hsw) fun D σ H ⟨ρ, F, G, o⟩ => by
    unfold sExt at o
    cases q : ownAt ρ i with
    | bad => rw [q] at o; exact o.elim
    | ex c => exact (ownAt_no_ex q).elim
    | ok ds =>
      rw [q] at o
      have ei := ownAt_ok q
      obtain ⟨v, h1, p, xs, rfl, h2, h3, h4⟩ := G.gd.at_ i _ ei
      refine ⟨.ref p, h1, .inl ⟨rfl, xs, SqL.of h2⟩, ?_⟩
      refine expSb G o fun F' H' d w gr o' G' r => ?_
      cases d with
      | list es =>
        dsimp only at o'
        by_cases hl : ds.length + es.length ≤ sizeLine
        · rw [if_pos hl] at o'
          obtain ⟨b, ys, rfl, r1, r2⟩ := r.list G'.gd.sub
          have h2' := gr.h _ _ h2
          refine ⟨p, b, xs, ys, rfl, rfl, h2', r1, by rw [h4.length, r2.length]; exact hl, ?_⟩
          refine o' σ F' _ (G'.upd ei rfl h1 rfl ⟨p, _, rfl, upd_same, gr.new p _ h2 h3, (h4.mono gr.f).append r2⟩)
        · rw [if_neg hl] at o'; exact o'.elim
      | _ => exact o'.elim
/-- x[i] = e, x a list of one's own -/
def sSetI (i : Nat) (fi fe : DEx) : DS := fun ρ => sBind (fe ρ) ρ fun d => sBind (ownAt ρ i) ρ fun ds => sBind (fi ρ) ρ fun k => match k with
  | .int j => match ixN ds.length j with
    | some m => .nx (ρ.set i (some (.own (ds.set m d))))
    | none => .bad
  | _ => .bad
theorem ds_setI {i : Nat} {x : Str} {p p' : Pos} {ei : Expr} (he : DE X W e fe) (hix : DB X W ei fi) (hN : X.N[i]? = some x := by rfl) (hv : Vis X.env.scope x := by first | exact Or.inl rfl | exact Or.inr (Or.inl rfl) | exact Or.inr (Or.inr rfl)) (hd : (x == ("__debug__" : Str)) = false := by decide) (hcd : (x == ("__classdict__" : Str)) = false := by decide)
    (ha : ∀ v, assign (.Subscript (.Name x p) ei p') X.env v = (do
      let ov ← holding [v] (eval (.Name x p) X.env)
      let iv ← holding [v, ov] (eval ei X.env)
      standAt p'
      holding [v, ov, iv] (setItem ov iv v)
      release [v, ov, iv] []) := by intro _; rfl)
    (hs : swapsWithSole [.Subscript (.Name x p) ei p'] e pos.line X.env = pure false := by rfl) (hw : swappedStores [.Subscript (.Name x p) ei p'] e X.env = pure none := by rfl)
    (h1 : (assignEach [.Subscript (.Name x p) ei p'] X.env).map (·.2) = [assign (.Subscript (.Name x p) ei p') X.env] := by rfl) :
    DSt X W F0 H0 (.Assign [.Subscript (.Name x p) ei p'] e pos) (sSetI i fi fe) :=
  PS.imp (ps_asg he (pg_sub (pe_var hN hv hd hcd) hix set_list ha) hs hw h1) fun D σ H ⟨ρ, F, G, o⟩ => expS G o fun F' H' d w gr o' G' r => by
    cases q : ownAt ρ i with
    | bad => rw [q] at o'; exact o'.elim
    | ex c => exact (ownAt_no_ex q).elim
    | ok ds =>
      rw [q] at o'
      have ei := ownAt_ok q
      obtain ⟨v, h1, p, xs, rfl, h2, h3, h4⟩ := G'.gd.at_ i _ ei
      refine ⟨.ref p, h1, ?_⟩
      refine expSb G' o' fun F2 H2 k w2 g2 o2 G2 r2 => ?_
      cases k with
      | int j =>
        cases qj : ixN ds.length j with
        | none => simp only [qj] at o2; exact o2.elim
        | some m =>
          simp only [qj] at o2
          refine ⟨p, xs, j, m, rfl, r2.int, g2.h _ _ h2, by rw [h4.length]; exact qj, ?_⟩
          exact o2 σ F2 _ (G2.upd ei rfl h1 rfl ⟨p, _, rfl, upd_same, g2.new p _ h2 h3, (h4.mono g2.f).set (r.mono g2.f) m⟩)
      | _ => exact o2.elim
/-- x op= e, whole numbers -/
def sAug (i : Nat) (g2 : PyData → PyData → Option PyData) (fe : DEx) : DS := fun ρ => sBind (eVar i ρ) ρ fun a => sBind (fe ρ) ρ fun b => sBind (Rs.of (g2 a b)) ρ fun d => .nx (ρ.set i (some (.fz d)))
theorem eVar_no_ex {ρ : En} {i : Nat} {c : Str} (h : eVar i ρ = .ex c) : False := by
  unfold eVar at h
  split at h <;> cases h
theorem eVar_ok {ρ : En} {i : Nat} {d : PyData} (h : eVar i ρ = .ok d) : ρ[i]? = some (some (.fz d)) := by
  unfold eVar at h
  split at h
  · cases h; assumption
  · cases h
theorem PIp.of {op : Operator} {r : R2} (h : OpR X (inplaceOp op) r) : PIp X op r := fun pins s σ H x y v u Q I rx ry q => h pins s σ H x y v u Q I rx ry q
theorem ds_aug {i : Nat} {x : Str} {op : Operator} {r : R2} {g2 : PyData → PyData → Option PyData} {pos' : Pos} (ho : OpR X (inplaceOp op) r) (hr : Ref2 X.K r g2) (hN : X.N.Nodup) (he : DB X W e fe) (hi : X.N[i]? = some x := by rfl) (hx : Loc X.env.scope x := by first | exact Or.inl rfl | exact Or.inr rfl) (hf : X.fn x = true ∨ X.env.scope.names.lookup x = some .local := by first | exact .inl rfl | exact .inr rfl) :
    DSt X W F0 H0 (.AugAssign (.Name x pos') op e pos) (sAug i g2 fe) :=
  PS.imp (ps_aug hN hi hx he (PIp.of ho) hf) fun D σ H ⟨ρ, F, G, o⟩ => by
    unfold sAug at o
    cases q : eVar i ρ with
    | bad => rw [q] at o; exact o.elim
    | ex c => exact (eVar_no_ex q).elim
    | ok a =>
      rw [q] at o
      obtain ⟨v, h1, h2⟩ := G.gd.at_ i _ (eVar_ok q)
      refine ⟨v, h1, ?_⟩
      refine expSb G o fun F' H' b w gr o' G' rb => ?_
      cases q2 : g2 a b with
      | none => rw [q2] at o'; exact o'.elim
      | some d =>
        rw [q2] at o'
        exact hr F' H' v w a b d _ G'.gd.sub (.inl (Rp.mono gr.f h2)) rb q2 fun z F2 H2 g3 r3 => o' _ F2 H2 ((G'.grow g3).put r3)
/-! ### raise -/
structure ExcC (K : PySem.W.Frag) (mg : Str → Option Value) (x : Str) : Prop where
  ex : ∃ C, mg x = some (.ref C) ∧ PySem.W.excIn K C [.type "ValueError", .type "Exception", .type "BaseException", .type "object"] "ValueError.__new__" = true ∧ PySem.W.keepIn K (.ref C) = true ∧
    PySem.W.subIn K (.ref C) (.type "BaseException") = some true ∧ PySem.W.typeIn K (.ref C) = some (.type "type")
def sRaise (c : Str) : DS := fun ρ => .ex c ρ
end
end DL
namespace DL
open PySem PySem.Spec L2
section
variable {X : Cx} {W : WX} {F0 H0 : Hp} {st : Stmt} {rest body : List Stmt} {f g : DS} {e : Expr} {fe : DEx} {pos : Pos}
theorem ds_raise {c m : Str} {j : Nat} {p p2 p3 : Pos} (hc : X.calm = true) (tk : Takes X W) (h : ExcC X.K X.mg c) (hg : Gl X c := by rfl) (hdb : (c == ("__debug__" : Str)) = false := by decide) :
    DSt X W F0 H0 (.Raise (some (.Call (.Name c p) [.Constant (.str m) j p2] [] p3)) none pos) (sRaise c) := by
  obtain ⟨C, h1, h2, h3, h4, h5⟩ := h.ex
  exact PS.imp (ps_raise hc tk (pmk_own PySem.F.excBase_ValueError h2 h1 h3 (raises_own h4 h5) hg hdb)) fun D σ H ⟨ρ, F, G, o⟩ => o C σ F H G h1
/-! ### while -/
def whileN (ge : En → Rs Bool) (f : DS) : Nat → DS
  | 0, _ => .bad
  | n + 1, ρ => sBind (ge ρ) ρ fun b => if b then (match f ρ with
    | .nx ρ' => whileN ge f n ρ'
    | .ct ρ' => whileN ge f n ρ'
    | .bk ρ' => .nx ρ'
    | r => r) else .nx ρ
def sWhile (n : Nat) (ge : En → Rs Bool) (f : DS) : DS := whileN ge f n
theorem ds_while {n : Nat} {ge : En → Rs Bool} (hp : PassesOwn (model X.prog X.w) X.A X.env X.xe) (hc : DT X W e ge) (hb : DSs X W F0 H0 body f) : DSt X W F0 H0 (.While e body [] pos) (sWhile n ge f) :=
  PS.imp (ps_while hp hc hb) fun D σ H ⟨ρ, F, G, o⟩ => by
    refine ⟨fun m σ H => ∃ ρ F, GoodS X.K F0 H0 F H σ ρ ∧ OutS X.K X.mg W F0 H0 (whileN ge f m ρ) D, ⟨n, ρ, F, G, o⟩, ?_⟩
    rintro m σ H ⟨ρ, F, G, o⟩
    cases m with
    | zero => exact o.elim
    | succ m =>
      refine tstS (k := fun b => if b then (match f ρ with
        | .nx ρ' => whileN ge f m ρ'
        | .ct ρ' => whileN ge f m ρ'
        | .bk ρ' => .nx ρ'
        | r => r) else .nx ρ) G o fun F' H' b gr o' G' => ?_
      cases b with
      | false => exact o' σ F' H' G'
      | true =>
        rw [if_pos rfl] at o'
        rw [if_pos rfl]
        refine ⟨fun σ H => ∃ ρ F, GoodS X.K F0 H0 F H σ ρ ∧ OutS X.K X.mg W F0 H0 (whileN ge f m ρ) D, fun σ' H' ⟨ρ', F', a, b⟩ => ⟨m, Nat.lt_succ_self m, ρ', F', a, b⟩, ρ, F', G', ?_⟩
        cases q : f ρ with
        | nx ρ' => rw [q] at o'; exact fun σ2 F2 H2 G2 => ⟨ρ', F2, G2, o'⟩
        | ct ρ' => rw [q] at o'; exact fun σ2 F2 H2 G2 => ⟨ρ', F2, G2, o'⟩
        | bk ρ' => rw [q] at o'; exact o'
        | rt d => rw [q] at o'; exact o'
        | rtE d ρ' => rw [q] at o'; exact o'
        | ex c ρ' => rw [q] at o'; exact o'
        | bad => rw [q] at o'; exact o'
/-! ### what is walked -/
structure IsWalk (K : PySem.W.Frag) (J : It) (F : Hp) (ds : List PyData) : Prop where
  ex : ∃ (G : Hp → Prop) (Y : Nat → Hp → V → Hp → Prop), Walk J ds.length G Y ∧ (∀ H, Same F H → G H) ∧
    ∀ i F2 H2 x H', i < ds.length → Same F F2 → Same F2 H2 → Y i H2 x H' → ∃ F' d, ds[i]? = some d ∧ Grow F2 H2 F' H' ∧ Rp K F' x d
def OutI (K : PySem.W.Frag) (mg : Str → Option Value) (W : WX) (σ : L2.St) (F H : Hp) (r : Rs (List PyData)) (R : It → Hp → Prop) : Prop := match r with
  | .ok ds => ∀ J F' H', Grow F H F' H' → IsWalk K J F' ds → R J H'
  | .ex c => ∀ C H', Same H H' → mg c = some (.ref C) → W (.ref C) none σ H'
  | .bad => False
def tI (K : PySem.W.Frag) (mg : Str → Option Value) (W : WX) (f : En → Rs (List PyData)) : TI := fun σ H R => ∃ ρ F, Good K F H σ ρ ∧ OutI K mg W σ F H (f ρ) R
abbrev DI (X : Cx) (W : WX) (tg iter : Expr) (f : En → Rs (List PyData)) : Prop := PI X tg iter (tI X.K X.mg W f)
theorem PI.imp {tg iter : Expr} {t t' : TI} (h : PI X tg iter t) (i : ∀ σ H R, t' σ H R → t σ H R) : PI X tg iter t' := ⟨fun pins s σ H R I x => h.run pins s σ H R I (i σ H R x)⟩
theorem IsWalk.list {K : PySem.W.Frag} {F : Hp} {a : Addr} {xs : List V} {ds : List PyData} (r : Rd F a (.lst xs)) (t : RpAll K F xs ds) : IsWalk K (Itl K a) F ds := by
  refine ⟨fun H => SqL K H a xs, YAt xs, by rw [← t.length]; exact walk_list, fun H s => .inl (same_rd s r), fun i F2 H2 x H' hi s1 s2 y => ?_⟩
  obtain ⟨rfl, hx⟩ := y
  obtain ⟨d, h1, h2⟩ := t.getV hx
  exact ⟨F2, d, h1, .refl s2, h2.mono s1⟩
theorem IsWalk.tup {K : PySem.W.Frag} {F : Hp} {a : Addr} {xs : List V} {ds : List PyData} (r : SqT K F a xs) (t : RpAll K F xs ds) : IsWalk K (Itt K a) F ds := by
  refine ⟨fun H => SqT K H a xs, YAt xs, by rw [← t.length]; exact walk_tup, fun H s => same_sqT s r, fun i F2 H2 x H' hi s1 s2 y => ?_⟩
  obtain ⟨rfl, hx⟩ := y
  obtain ⟨d, h1, h2⟩ := t.getV hx
  exact ⟨F2, d, h1, .refl s2, h2.mono s1⟩
def signs (z : Str) : List PyData := z.cps.toList.map fun c => .str ⟨#[c]⟩
theorem IsWalk.str {K : PySem.W.Frag} {F : Hp} {z : Str} (h : SOk z) : IsWalk K (Its z) F (signs z) := by
  have hl : (signs z).length = z.cps.size := by unfold signs; rw [List.length_map, Array.length_toList]
  refine ⟨fun _ => True, _, by rw [hl]; exact walk_str, fun _ _ => trivial, fun i F2 H2 x H' hi s1 s2 y => ?_⟩
  obtain ⟨rfl, c, hc, rfl⟩ := y
  have hm : z.cps.toList[i]? = some c := by rw [Array.getElem?_toList]; exact hc
  refine ⟨F2, .str ⟨#[c]⟩, ?_, .refl s2, .str _ (h.sign (List.mem_of_getElem? hm))⟩
  unfold signs
  rw [List.getElem?_map, hm]; rfl
def rangeD (lo : Int) (n : Nat) : List PyData := (List.range n).map fun (i : Nat) => .int (lo + (i : Nat))
theorem IsWalk.range {K : PySem.W.Frag} {F : Hp} {lo : Int} {n : Nat} : IsWalk K (Itr lo n) F (rangeD lo n) := by
  have hl : (rangeD lo n).length = n := by simp [rangeD]
  refine ⟨fun _ => True, _, by rw [hl]; exact walk_range, fun _ _ => trivial, fun i F2 H2 x H' hi s1 s2 y => ?_⟩
  obtain ⟨rfl, rfl⟩ := y
  rw [hl] at hi
  refine ⟨F2, .int (lo + (i : Nat)), ?_, .refl s2, .int _⟩
  unfold rangeD
  rw [List.getElem?_map, List.getElem?_range hi]; rfl
def seqD : PyData → Option (List PyData)
  | .list ds => some ds
  | .tuple ds => some ds
  | .str z => some (signs z)
  | _ => none
theorem expI {k : PyData → Rs (List PyData)} {σ : L2.St} {H : Hp} {ρ : En} {F : Hp} {R : VK} {R' : It → Hp → Prop} (G : Good X.K F H σ ρ) (o : OutI X.K X.mg W σ F H ((fe ρ).bind k) R')
    (hk : ∀ F' H' d v, Grow F H F' H' → OutI X.K X.mg W σ F H (k d) R' → Rp X.K F' v d → R v H') : tE X.K X.mg W fe σ H R := by
  refine ⟨ρ, F, G, ?_⟩
  cases q : fe ρ with
  | bad => rw [q] at o; exact o
  | ex c => rw [q] at o; exact o
  | ok d => rw [q] at o; exact fun v F' H' gr r => hk F' H' d v gr o r
/-- over a list -/
def iL (fe : DEx) : En → Rs (List PyData) := fun ρ => (fe ρ).bind fun d => match d with
  | .list ds => .ok ds
  | _ => .bad
theorem di_list {tg : Expr} (h : DE X W e fe) : DI X W tg e (iL fe) := PI.imp (pi_list h) fun σ H R ⟨ρ, F, G, o⟩ => expI G o fun F' H' d v gr o' r => by
  cases d with
  | list ds =>
    cases r with
    | lst r t => exact ⟨_, rfl, ⟨_, .inl (same_rd gr.sub r)⟩, o' _ F' H' gr (IsWalk.list r t)⟩
  | _ => exact o'.elim
def iT (fe : DEx) : En → Rs (List PyData) := fun ρ => (fe ρ).bind fun d => match d with
  | .tuple ds => .ok ds
  | _ => .bad
theorem di_tup {tg : Expr} (h : DE X W e fe) : DI X W tg e (iT fe) := PI.imp (pi_tup h) fun σ H R ⟨ρ, F, G, o⟩ => expI G o fun F' H' d v gr o' r => by
  cases d with
  | tuple ds =>
    cases r with
    | tup r t => exact ⟨_, rfl, ⟨_, same_sqT gr.sub r⟩, o' _ F' H' gr (IsWalk.tup r t)⟩
  | _ => exact o'.elim
def iS (fe : DEx) : En → Rs (List PyData) := fun ρ => (fe ρ).bind fun d => match d with
  | .str z => .ok (signs z)
  | _ => .bad
theorem di_str {tg : Expr} (h : DE X W e fe) : DI X W tg e (iS fe) := PI.imp (pi_str h) fun σ H R ⟨ρ, F, G, o⟩ => expI G o fun F' H' d v gr o' r => by
  cases d with
  | str z =>
    cases r with
    | str _ hz => exact ⟨z, rfl, o' _ F' H' gr (IsWalk.str hz)⟩
  | _ => exact o'.elim
/-- over range(n), range(a, b) -/
def iR1 (fs : En → Rs (List PyData)) : En → Rs (List PyData) := fun ρ => (fs ρ).bind fun ds => match ds with
  | [.int j] => if -(2 ^ 62) ≤ j ∧ j < 2 ^ 62 then .ok (rangeD 0 j.toNat) else .bad
  | _ => .bad
def iR2 (fs : En → Rs (List PyData)) : En → Rs (List PyData) := fun ρ => (fs ρ).bind fun ds => match ds with
  | [.int i, .int j] => if -(2 ^ 62) ≤ i ∧ i < 2 ^ 62 ∧ -(2 ^ 62) ≤ j ∧ j < 2 ^ 62 then .ok (rangeD i (j - i).toNat) else .bad
  | _ => .bad
theorem di_range1 {tg a : Expr} {fs : En → Rs (List PyData)} {p : Pos} (hm : X.mg "range" = none) (ha : DAB X W [a] fs) (hg : Gl X "range" := by rfl) (hs : starEach [a] X.env = [(false, eval a X.env)] := by rfl) : DI X W tg (.Call (.Name "range" p) [a] [] pos) (iR1 fs) :=
  PI.imp (pi_range1 hg hm ha hs) fun σ H R ⟨ρ, F, G, o⟩ => argsb_then (O := fun F H r => OutI X.K X.mg W σ F H r R) G o (fun _ _ _ o => o) (fun _ _ o => o) fun F' H' ds vs gr G' o' b => by
    split at o'
    · split at o'
      · rename_i hh
        obtain ⟨v, rfl, r⟩ := b.one
        exact ⟨_, by rw [r.int], hh.1, hh.2, o' _ F' H' gr IsWalk.range⟩
      · exact o'.elim
    · exact o'.elim
theorem di_range2 {tg a b : Expr} {fs : En → Rs (List PyData)} {p : Pos} (hm : X.mg "range" = none) (ha : DAB X W [a, b] fs) (hg : Gl X "range" := by rfl) (hs : starEach [a, b] X.env = [(false, eval a X.env), (false, eval b X.env)] := by rfl) (hs2 : starEach [b] X.env = [(false, eval b X.env)] := by rfl) : DI X W tg (.Call (.Name "range" p) [a, b] [] pos) (iR2 fs) :=
  PI.imp (pi_range2 hg hm ha hs hs2) fun σ H R ⟨ρ, F, G, o⟩ => argsb_then (O := fun F H r => OutI X.K X.mg W σ F H r R) G o (fun _ _ _ o => o) (fun _ _ o => o) fun F' H' ds vs gr G' o' bb => by
    split at o'
    · split at o'
      · rename_i hh
        obtain ⟨v, w, rfl, r1, r2⟩ := bb.two
        exact ⟨_, _, by rw [r1.int, r2.int], hh, o' _ F' H' gr IsWalk.range⟩
      · exact o'.elim
    · exact o'.elim
/-- over enumerate(list) -/
def enumD : Nat → List PyData → List PyData
  | _, [] => []
  | n, d :: r => .tuple [.int (n : Nat), d] :: enumD (n + 1) r
theorem enumD_length : ∀ (n : Nat) (ds : List PyData), (enumD n ds).length = ds.length
  | _, [] => rfl
  | n, d :: r => by simp [enumD, enumD_length (n + 1) r]
theorem enumD_get : ∀ (n : Nat) (ds : List PyData) (i : Nat) (d : PyData), ds[i]? = some d → (enumD n ds)[i]? = some (.tuple [.int ((n + i : Nat) : Int), d])
  | _, [], i, d, h => by simp at h
  | n, x :: r, 0, d, h => by simp at h; subst h; rfl
  | n, x :: r, i + 1, d, h => by
    have := enumD_get (n + 1) r i d (by simpa using h)
    rw [show n + 1 + i = n + (i + 1) by omega] at this
    simpa [enumD] using this
def iEn (fs : En → Rs (List PyData)) : En → Rs (List PyData) := fun ρ => (fs ρ).bind fun ds => match ds with
  | [.list es] => .ok (enumD 0 es)
  | _ => .bad
theorem di_enum {a : Expr} {fs : En → Rs (List PyData)} {p tpos : Pos} {elts : List Expr} {kk : Nat} (hm : X.mg "enumerate" = none) (ha : DA X W [a] fs) (hg : Gl X "enumerate" := by rfl) (hs : starEach [a] X.env = [(false, eval a X.env)] := by rfl) : DI X W (.Tuple elts kk tpos) (.Call (.Name "enumerate" p) [a] [] pos) (iEn fs) :=
  PI.imp (pi_enum hg hm ha hs) fun σ H R ⟨ρ, F, G, o⟩ => args_then (O := fun F H r => OutI X.K X.mg W σ F H r R) G o (fun _ _ _ o => o) (fun _ _ o => o) fun F' H' ds vs gr G' o' b => by
    split at o'
    · rename_i es
      cases b with
      | cons r rn =>
        cases rn
        cases r with
        | @lst a xs _ r t =>
          refine ⟨a, xs, rfl, .inl (same_rd gr.sub r), o' _ F' H' gr ⟨fun H => SqL X.K H a xs, _, by rw [enumD_length, ← t.length]; exact walk_enum, fun H s => .inl (same_rd s r), fun i F2 H2 x H3 hi s1 s2 y => ?_⟩⟩
          obtain ⟨T, x1, x2, rfl, nT, rfl, e1, e2⟩ := y
          cases e1
          obtain ⟨d, h1, h2⟩ := t.getV e2
          refine ⟨upd F2 T (.tup [.int (i : Nat), x2]), _, enumD_get 0 es i d h1, Grow.laid s2 nT, .tup (.inl (.inl upd_same)) ?_⟩
          rw [Nat.zero_add]
          exact .cons (.int _) (.cons (h2.mono (s1.trans (same_upd (s2.free nT)))) .nil)
    · exact o'.elim
/-- zip of two lists -/
def zipD : List PyData → List PyData → List PyData
  | a :: r, b :: s => .tuple [a, b] :: zipD r s
  | _, _ => []
theorem zipD_length : ∀ (a b : List PyData), (zipD a b).length = min a.length b.length
  | [], b => by simp [zipD]
  | a :: r, [] => by simp [zipD]
  | a :: r, b :: s => by simp [zipD, zipD_length r s]
theorem zipD_get : ∀ (a b : List PyData) (i : Nat) (x y : PyData), a[i]? = some x → b[i]? = some y → (zipD a b)[i]? = some (.tuple [x, y])
  | [], b, i, x, y, h, _ => by simp at h
  | a :: r, [], i, x, y, _, h => by simp at h
  | a :: r, b :: s, 0, x, y, h1, h2 => by simp at h1 h2; subst h1; subst h2; rfl
  | a :: r, b :: s, i + 1, x, y, h1, h2 => by simpa [zipD] using zipD_get r s i x y (by simpa using h1) (by simpa using h2)
def iZ (fs : En → Rs (List PyData)) : En → Rs (List PyData) := fun ρ => (fs ρ).bind fun ds => match ds with
  | [.list a, .list b] => .ok (zipD a b)
  | _ => .bad
theorem di_zip {a b : Expr} {fs : En → Rs (List PyData)} {p tpos : Pos} {elts : List Expr} {kk : Nat} (hm : X.mg "zip" = none) (ha : DA X W [a, b] fs) (hg : Gl X "zip" := by rfl) (hs : starEach [a, b] X.env = (false, eval a X.env) :: starEach [b] X.env := by rfl) (hpl : (backTo pos (starEach [b] X.env)).any (·.1) = false := by rfl) :
    DI X W (.Tuple elts kk tpos) (.Call (.Name "zip" p) [a, b] [] pos) (iZ fs) :=
  PI.imp (pi_zip hg hm ha hs hpl) fun σ H R ⟨ρ, F, G, o⟩ => args_then (O := fun F H r => OutI X.K X.mg W σ F H r R) G o (fun _ _ _ o => o) (fun _ _ o => o) fun F' H' ds vs gr G' o' bb => by
    split at o'
    · rename_i es1 es2
      cases bb with
      | cons ra rn =>
        cases rn with
        | cons rb rn =>
          cases rn
          cases ra with
          | @lst a xs _ r t =>
            cases rb with
            | @lst b ys _ r' t' =>
              refine ⟨a, b, xs, ys, rfl, .inl (same_rd gr.sub r), .inl (same_rd gr.sub r'), o' _ F' H' gr ⟨fun H => SqL X.K H a xs ∧ SqL X.K H b ys, _, walk_zip (by rw [zipD_length, t.length, t'.length]), fun H s => ⟨.inl (same_rd s r), .inl (same_rd s r')⟩, fun i F2 H2 x H3 hi s1 s2 y => ?_⟩⟩
              obtain ⟨T, x1, x2, rfl, nT, rfl, e1, e2⟩ := y
              obtain ⟨d1, h1, k1⟩ := t.getV e1
              obtain ⟨d2, h2, k2⟩ := t'.getV e2
              have sm := s1.trans (same_upd (o := .tup [x1, x2]) (s2.free nT))
              exact ⟨upd F2 T (.tup [x1, x2]), _, zipD_get _ _ i d1 d2 h1 h2, Grow.laid s2 nT, .tup (.inl (.inl upd_same)) (.cons (k1.mono sm) (.cons (k2.mono sm) .nil))⟩
    · exact o'.elim
/-! ### targets -/
abbrev Tgt := PyData → En → Option En
def TgtOk (K : PySem.W.Frag) (t : TG) (g : Tgt) : Prop := ∀ (F H : Hp) σ ρ v d ρ' (Q : L2.St → Hp → Prop), Good K F H σ ρ → Rp K F v d → g d ρ = some ρ' →
  (∀ σ', Good K F H σ' ρ' → (∀ (j : Nat) (x : LV), ρ'[j]? = some (some x) → x.isOwn = true → ρ[j]? = some (some x) ∧ σ'[j]? = σ[j]?) → Q σ' H) → t v σ H Q
theorem Good.put {K : PySem.W.Frag} {F H : Hp} {σ : L2.St} {ρ : En} {i : Nat} {v : V} {d : PyData} (G : Good K F H σ ρ) (r : Rp K F v d) : Good K F H (σ.set i (some v)) (ρ.set i (some (.fz d))) := by
  have key : ∀ (j : Nat) x w a, (ρ.set i (some (.fz d)))[j]? = some (some x) → (σ.set i (some v))[j]? = some (some w) → Ft H x w a → ρ[j]? = some (some x) ∧ σ[j]? = some (some w) := fun j x w a e z f => by
    have hj : j ≠ i := by
      rintro rfl
      obtain ⟨e1, _⟩ := get_set_eq e
      cases e1; exact f.elim
    rw [List.getElem?_set_ne (Ne.symm hj)] at e z
    exact ⟨e, z⟩
  refine ⟨G.sub, by simp [G.len], fun j x e => ?_, fun j k x y v w a ej ek sj sk f1 f2 ne => ?_⟩
  · by_cases hj : j = i
    · subst hj
      obtain ⟨e1, hi⟩ := get_set_eq e
      cases e1
      exact ⟨v, List.getElem?_set_self (by rw [G.len]; exact hi), r⟩
    · rw [List.getElem?_set_ne (Ne.symm hj)] at e ⊢
      exact G.at_ j x e
  · obtain ⟨a1, a2⟩ := key j x v a ej sj f1
    obtain ⟨b1, b2⟩ := key k y w a ek sk f2
    exact G.dis j k x y v w a a1 b1 a2 b2 f1 f2 ne
theorem put_own {ρ : En} {σ : L2.St} {i : Nat} {v : V} {d : PyData} : ∀ (j : Nat) (x : LV), (ρ.set i (some (.fz d)))[j]? = some (some x) → x.isOwn = true → ρ[j]? = some (some x) ∧ (σ.set i (some v))[j]? = σ[j]? := fun j x e o => by
  have hj : j ≠ i := by
    rintro rfl
    obtain ⟨e1, _⟩ := get_set_eq e
    cases e1; cases o
  rw [List.getElem?_set_ne (Ne.symm hj)] at e ⊢
  exact ⟨e, rfl⟩
def gN (i : Nat) : Tgt := fun d ρ => some (ρ.set i (some (.fz d)))
theorem tgt_name {K : PySem.W.Frag} (i : Nat) : TgtOk K (gName i) (gN i) := fun F H σ ρ v d ρ' Q G r e k => by
  cases e
  exact k _ (G.put r) put_own
def gN2 (i j : Nat) : Tgt := fun d ρ => match d with
  | .tuple [a, b] => some ((ρ.set i (some (.fz a))).set j (some (.fz b)))
  | _ => none
theorem tgt_two {K : PySem.W.Frag} (i j : Nat) : TgtOk K (gTup K 2 (gCons (gName i) (gCons (gName j) gNil))) (gN2 i j) := fun F H σ ρ v d ρ' Q G r e k => by
  unfold gN2 at e
  split at e
  · cases e
    cases r with
    | tup r t =>
      cases t with
      | cons a t =>
        cases t with
        | cons b t =>
          cases t
          refine ⟨_, _, rfl, same_sqT G.sub r, rfl, _, _, rfl, _, _, rfl, rfl, k _ ((G.put a).put b) fun m x e o => ?_⟩
          obtain ⟨e1, e2⟩ := put_own (σ := σ.set i _) m x e o
          obtain ⟨e3, e4⟩ := put_own m x e1 o
          exact ⟨e3, e2.trans e4⟩
  · cases e
def gN3 (i j l : Nat) : Tgt := fun d ρ => match d with
  | .tuple [a, b, c] => some (((ρ.set i (some (.fz a))).set j (some (.fz b))).set l (some (.fz c)))
  | _ => none
theorem tgt_three {K : PySem.W.Frag} (i j l : Nat) : TgtOk K (gTup K 3 (gCons (gName i) (gCons (gName j) (gCons (gName l) gNil)))) (gN3 i j l) := fun F H σ ρ v d ρ' Q G r e k => by
  unfold gN3 at e
  split at e
  · cases e
    cases r with
    | tup r t =>
      cases t with
      | cons a t =>
        cases t with
        | cons b t =>
          cases t with
          | cons c t =>
            cases t
            refine ⟨_, _, rfl, same_sqT G.sub r, rfl, _, _, rfl, _, _, rfl, _, _, rfl, rfl, k _ (((G.put a).put b).put c) fun m x e o => ?_⟩
            obtain ⟨e1, e2⟩ := put_own (σ := (σ.set i _).set j _) m x e o
            obtain ⟨e3, e4⟩ := put_own (σ := σ.set i _) m x e1 o
            obtain ⟨e5, e6⟩ := put_own m x e3 o
            exact ⟨e5, e2.trans (e4.trans e6)⟩
  · cases e
theorem TgtOk.s {t : TG} {g : Tgt} (h : TgtOk X.K t g) {F H : Hp} {σ : L2.St} {ρ ρ' : En} {v : V} {d : PyData} {Q : L2.St → Hp → Prop} (G : GoodS X.K F0 H0 F H σ ρ) (r : Rp X.K F v d) (e : g d ρ = some ρ') (k : ∀ σ', GoodS X.K F0 H0 F H σ' ρ' → Q σ' H) : t v σ H Q :=
  h F H σ ρ v d ρ' Q G.gd r e fun σ' G' ow => k σ' ⟨G.gr, G', fun j x v a ej z f => by
    obtain ⟨e1, e2⟩ := ow j x ej f.own
    exact G.fr j x v a e1 (e2.symm.trans z) f⟩
/-- (a, b) = e -/
def sTgt (gt : Tgt) (fe : DEx) : DS := fun ρ => sBind (fe ρ) ρ fun d => match gt d ρ with
  | some ρ' => .nx ρ'
  | none => .bad
theorem ds_tgt {tg : Expr} {t : TG} {gt : Tgt} (he : DE X W e fe) (hg : PG X tg t) (ht : TgtOk X.K t gt) (hs : swapsWithSole [tg] e pos.line X.env = pure false := by rfl) (hw : swappedStores [tg] e X.env = pure none := by rfl)
    (h1 : (assignEach [tg] X.env).map (·.2) = [assign tg X.env] := by rfl) : DSt X W F0 H0 (.Assign [tg] e pos) (sTgt gt fe) :=
  PS.imp (ps_asg he hg hs hw h1) fun D σ H ⟨ρ, F, G, o⟩ => expS G o fun F' H' d v gr o' G' r => by
    cases q : gt d ρ with
    | none => simp only [q] at o'; exact o'.elim
    | some ρ' =>
      simp only [q] at o'
      exact ht.s G' r q fun σ' G2 => o' σ' F' H' G2
/-- a, b = e1, e2 -/
def sPar (i j : Nat) (fs : En → Rs (List PyData)) : DS := fun ρ => sBind (fs ρ) ρ fun ds => match ds with
  | [a, b] => .nx ((ρ.set i (some (.fz a))).set j (some (.fz b)))
  | _ => .bad
theorem ds_par {i j : Nat} {x y : Str} {a b : Expr} {fs : En → Rs (List PyData)} {px py pt : Pos} {kt k2 pt2} (hc : X.calm = true) (hN : X.N.Nodup) (ha : DA X W [a, b] fs) (hi : X.N[i]? = some x := by rfl) (hj : X.N[j]? = some y := by rfl) (hij : i ≠ j := by decide)
    (hx : X.env.scope.names.lookup x = some .local := by rfl) (hy : X.env.scope.names.lookup y = some .local := by rfl)
    (hw : swappedStores [.Tuple [.Name x px, .Name y py] kt pt] (.Tuple [a, b] k2 pt2) X.env = pure (some [x, y]) := by rfl)
    (hs : swapsWithSole [.Tuple [.Name x px, .Name y py] kt pt] (.Tuple [a, b] k2 pt2) pos.line X.env = pure false := by rfl) :
    DSt X W F0 H0 (.Assign [.Tuple [.Name x px, .Name y py] kt pt] (.Tuple [a, b] k2 pt2) pos) (sPar i j fs) :=
  PS.imp (ps_par hc hN hi hj hij hx hy ha hw hs) fun D σ H ⟨ρ, F, G, o⟩ => by
    refine ⟨ρ, F, G.gd, ?_⟩
    unfold sPar sBind at o
    cases q : fs ρ with
    | bad => rw [q] at o; exact o
    | ex c => rw [q] at o; exact exS G o
    | ok ds =>
      rw [q] at o
      intro vs F' H' gr r
      cases r with
      | nil => exact o.elim
      | cons r1 t =>
        cases t with
        | nil => exact o.elim
        | cons r2 t =>
          cases t with
          | nil => exact ⟨_, _, rfl, o _ F' H' (((G.grow gr).put r1).put r2)⟩
          | cons _ _ => exact o.elim
/-! ### for -/
def forL (gt : Tgt) (f : DS) : List PyData → DS
  | [], ρ => .nx ρ
  | d :: r, ρ => match gt d ρ with
    | none => .bad
    | some ρ1 => match f ρ1 with
      | .nx ρ' => forL gt f r ρ'
      | .ct ρ' => forL gt f r ρ'
      | .bk ρ' => .nx ρ'
      | z => z
def sFor (fi : En → Rs (List PyData)) (gt : Tgt) (f : DS) : DS := fun ρ => sBind (fi ρ) ρ fun ds => forL gt f ds ρ
theorem OutS.base {F1 H1 : Hp} {r : Fl} {D : Ends} (g : Grow F0 H0 F1 H1) (o : OutS X.K X.mg W F0 H0 r D) : OutS X.K X.mg W F1 H0 r D := by
  have k : ∀ F H, Grow F1 H0 F H → Grow F0 H0 F H := fun F H z => ⟨g.f.trans z.f, z.h, z.sub, fun p u h n => z.new p u h (g.new p u h n), fun p o u h => g.nz p o u (z.nz p o u h)⟩
  cases r with
  | nx ρ => exact fun σ F H G => o σ F H ⟨k _ _ G.gr, G.gd, G.fr⟩
  | bk ρ => exact fun σ F H G => o σ F H ⟨k _ _ G.gr, G.gd, G.fr⟩
  | ct ρ => exact fun σ F H G => o σ F H ⟨k _ _ G.gr, G.gd, G.fr⟩
  | rt d => exact fun v F H G r => o v F H (k _ _ G) r
  | rtE d ρ => exact fun v σ F H G r => o v σ F H ⟨k _ _ G.gr, G.gd, G.fr⟩ r
  | ex c ρ => exact fun C σ F H G => o C σ F H ⟨k _ _ G.gr, G.gd, G.fr⟩
  | bad => exact o
theorem for_core {J : It} {ds : List PyData} {t : TG} {gt : Tgt} {D : Ends} {σ : L2.St} {F1 H1 : Hp} {ρ : En} (w : IsWalk X.K J F1 ds) (ht : TgtOk X.K t gt) (G : GoodS X.K F0 H0 F1 H1 σ ρ) (o : OutS X.K X.mg W F0 H0 (forL gt f ds ρ) D) :
    ∃ W' : Nat → Nat → L2.St → Hp → Prop, (∃ m, W' 0 m σ H1) ∧ ∀ i m σ H, W' i m σ H →
      (J.stop i H ∧ D.nx σ H) ∨ (J.go i H ∧ ∃ N : L2.St → Hp → Prop, (∀ σ' H', N σ' H' → ∃ m', m' < m ∧ W' (i + 1) m' σ' H') ∧ ∀ x H', J.yld i H x H' → t x σ H' fun σ2 H2 => ∃ F2, tS X.K X.mg W F2 H0 f { D with nx := N, ct := N, bk := D.nx } σ2 H2) := by
  obtain ⟨Gw, Y, hw, hG, hY⟩ := w.ex
  have o1 : OutS X.K X.mg W F1 H0 (forL gt f ds ρ) D := OutS.base G.gr o
  have G1 : GoodS X.K F1 H0 F1 H1 σ ρ := ⟨⟨Same.refl _, G.gr.h, G.gr.sub, fun _ _ _ h => h, fun _ _ _ h => h⟩, G.gd, G.fr⟩
  refine for_it (tb := fun D σ H => ∃ F2, tS X.K X.mg W F2 H0 f D σ H) hw (fun i σ H => ∃ ρ F, GoodS X.K F1 H0 F H σ ρ ∧ OutS X.K X.mg W F1 H0 (forL gt f (ds.drop i) ρ) D) ⟨ρ, F1, G1, o1⟩ ?_ ?_ ?_
  · rintro i σ H _ ⟨ρ, F, G, _⟩
    exact hG H (G.gr.f.trans G.gd.sub)
  · rintro i x σ H H' hi ⟨ρ, F, G, o⟩ y
    obtain ⟨F', d, hd, gd, rd⟩ := hY i F H x H' hi G.gr.f G.gd.sub y
    have ed : ds.drop i = d :: ds.drop (i + 1) := by
      rw [List.drop_eq_getElem_cons hi]
      congr 1
      have := List.getElem?_eq_getElem hi
      rw [hd] at this
      exact (Option.some.inj this).symm
    rw [ed] at o
    unfold forL at o
    cases qg : gt d ρ with
    | none => simp only [qg] at o; exact o.elim
    | some ρ1 =>
      simp only [qg] at o
      refine ht.s (G.grow gd) rd qg fun σ' G2 => ⟨F1, ρ1, F', G2, ?_⟩
      cases qf : f ρ1 with
      | nx ρ' => simp only [qf] at o; exact fun σ3 F3 H3 G3 => ⟨ρ', F3, G3, o⟩
      | ct ρ' => simp only [qf] at o; exact fun σ3 F3 H3 G3 => ⟨ρ', F3, G3, o⟩
      | bk ρ' => simp only [qf] at o; exact o
      | rt d => simp only [qf] at o; exact o
      | rtE d ρ' => simp only [qf] at o; exact o
      | ex c ρ' => simp only [qf] at o; exact o
      | bad => simp only [qf] at o; exact o
  · rintro σ H ⟨ρ, F, G, o⟩
    rw [List.drop_length] at o
    exact o σ F H G
/-- the loop's judgement, the body for every frozen base -/
theorem ds_for {tg iter : Expr} {fi : En → Rs (List PyData)} {t : TG} {gt : Tgt} (hp : PassesOwn (model X.prog X.w) X.A X.env X.xe) (hc : X.calm = true) (hi : DI X W tg iter fi) (hg : PG X tg t) (ht : TgtOk X.K t gt) (hb : ∀ F1, DSs X W F1 H0 body f)
    (hs : ∀ x, foldedSetIterable iter X.env x = pure x := by intro _; rfl) :
    DSt X W F0 H0 (.For tg iter body [] pos) (sFor fi gt f) :=
  PS.imp (ps_for (tb := fun D σ H => ∃ F2, tS X.K X.mg W F2 H0 f D σ H) hp hc hi hg ⟨fun pins s σ H D I ⟨F1, h⟩ => (hb F1).run pins s σ H D I h⟩ hs) fun D σ H ⟨ρ, F, G, o⟩ => by
    refine ⟨ρ, F, G.gd, ?_⟩
    unfold sFor sBind at o
    cases q : fi ρ with
    | bad => rw [q] at o; exact o
    | ex c => rw [q] at o; exact exS G o
    | ok ds =>
      rw [q] at o
      intro J F1 H1 gr w
      exact for_core w ht (G.grow gr) o
theorem ds_forN {x : Str} {i : Nat} {iter : Expr} {fi : En → Rs (List PyData)} {px : Pos} (hN : X.N.Nodup) (hp : PassesOwn (model X.prog X.w) X.A X.env X.xe) (hc : X.calm = true) (hi : DI X W (.Name x px) iter fi) (hb : ∀ F1, DSs X W F1 H0 body f)
    (hj : X.N[i]? = some x := by rfl) (hx : Loc X.env.scope x := by first | exact Or.inl rfl | exact Or.inr rfl) (hf : X.fn x = true ∨ X.env.scope.names.lookup x = some .local := by first | exact .inl rfl | exact .inr rfl) (hs : ∀ x, foldedSetIterable iter X.env x = pure x := by intro _; rfl) :
    DSt X W F0 H0 (.For (.Name x px) iter body [] pos) (sFor fi (gN i) f) := ds_for hp hc hi (pg_name hN hj hx hf) (tgt_name i) hb hs
/-! ### list comprehensions -/
def wipeE (ρ : En) : List Nat → En
  | [] => ρ
  | v :: vs => (wipeE ρ vs).set v none
theorem Good.forget {K : PySem.W.Frag} {F H : Hp} {σ : L2.St} {ρ : En} (i : Nat) (G : Good K F H σ ρ) : Good K F H (σ.set i none) (ρ.set i none) := by
  have key : ∀ (j : Nat) (x : LV), (ρ.set i none)[j]? = some (some x) → j ≠ i ∧ ρ[j]? = some (some x) := fun j x e => by
    by_cases hj : j = i
    · subst hj
      obtain ⟨e1, _⟩ := get_set_eq e
      cases e1
    · rw [List.getElem?_set_ne (Ne.symm hj)] at e
      exact ⟨hj, e⟩
  refine ⟨G.sub, by simp [G.len], fun j x e => ?_, fun j k x y v w a ej ek sj sk f1 f2 ne => ?_⟩
  · obtain ⟨hj, e⟩ := key j x e
    rw [List.getElem?_set_ne (Ne.symm hj)]
    exact G.at_ j x e
  · obtain ⟨hj, ej⟩ := key j x ej
    obtain ⟨hk, ek⟩ := key k y ek
    rw [List.getElem?_set_ne (Ne.symm hj)] at sj
    rw [List.getElem?_set_ne (Ne.symm hk)] at sk
    exact G.dis j k x y v w a ej ek sj sk f1 f2 ne
theorem Good.wipe {K : PySem.W.Frag} {F H : Hp} {σ : L2.St} {ρ : En} (G : Good K F H σ ρ) : ∀ vs : List Nat, Good K F H (wipe σ vs) (wipeE ρ vs)
  | [] => G
  | v :: vs => (Good.wipe G vs).forget v
theorem wipe_set {σ : L2.St} {i : Nat} {x : Option V} : ∀ {vs : List Nat}, i ∈ vs → wipe (σ.set i x) vs = wipe σ vs
  | [], h => nomatch h
  | v :: vs, h => by
    unfold wipe
    by_cases hi : i ∈ vs
    · rw [wipe_set hi]
    · have e : i = v := (List.mem_cons.mp h).resolve_right hi
      subst e
      have : ∀ (ws : List Nat), i ∉ ws → wipe (σ.set i x) ws = (wipe σ ws).set i x := by
        intro ws
        induction ws with
        | nil => intro _; rfl
        | cons w ws ih =>
          intro hn
          unfold wipe
          rw [ih (fun z => hn (List.mem_cons_of_mem _ z)), List.set_comm _ _ (fun z : i = w => hn (by rw [z]; exact List.mem_cons_self))]
      rw [this vs hi, List.set_set]
theorem wipe_wipe (σ : L2.St) : ∀ vs ws : List Nat, (∀ v ∈ vs, v ∈ ws) → wipe (wipe σ vs) ws = wipe σ ws
  | [], ws, _ => rfl
  | v :: vs, ws, h => by
    show wipe ((wipe σ vs).set v none) ws = _
    rw [wipe_set (h v List.mem_cons_self), wipe_wipe σ vs ws fun x hx => h x (List.mem_cons_of_mem _ hx)]
/-- targets whose slots lie in vs -/
def TgtC (K : PySem.W.Frag) (t : TG) (gt : Tgt) (vs : List Nat) : Prop := ∀ (F H : Hp) σ ρ v d ρ' (Q : L2.St → Hp → Prop), Good K F H σ ρ → Rp K F v d → gt d ρ = some ρ' → (∀ σ', Good K F H σ' ρ' → wipe σ' vs = wipe σ vs → Q σ' H) → t v σ H Q
theorem tgtC_name {K : PySem.W.Frag} {i : Nat} {vs : List Nat} (h : i ∈ vs) : TgtC K (gName i) (gN i) vs := fun F H σ ρ v d ρ' Q G r e k => by
  cases e
  exact k _ (G.put r) (wipe_set h)
theorem tgtC_two {K : PySem.W.Frag} {i j : Nat} {vs : List Nat} (h : i ∈ vs) (h' : j ∈ vs) : TgtC K (gTup K 2 (gCons (gName i) (gCons (gName j) gNil))) (gN2 i j) vs := fun F H σ ρ v d ρ' Q G r e k => by
  unfold gN2 at e
  split at e
  · cases e
    cases r with
    | tup r t =>
      cases t with
      | cons a t =>
        cases t with
        | cons b t =>
          cases t
          exact ⟨_, _, rfl, same_sqT G.sub r, rfl, _, _, rfl, _, _, rfl, rfl, k _ ((G.put a).put b) (by rw [wipe_set h', wipe_set h])⟩
  · cases e
def lcL (gt : Tgt) (tt : En → Rs Bool) (fe : DEx) (ρ : En) : List PyData → Rs (List PyData)
  | [] => .ok []
  | d :: r => match gt d ρ with
    | none => .bad
    | some ρ1 => (tt ρ1).bind fun b => if b then (fe ρ1).bind fun y => (lcL gt tt fe ρ r).bind fun ys => .ok (y :: ys) else lcL gt tt fe ρ r
def nLc (vs : List Nat) (fi : En → Rs (List PyData)) (gt : Tgt) (tt : En → Rs Bool) (fe : DEx) : En → Rs (List PyData) := fun ρ => (fi ρ).bind fun ds => if ds.length ≤ sizeLine then (match lcL gt tt fe (wipeE ρ vs) ds with
  | .ok ys => .ok ys
  | _ => .bad) else .bad
abbrev W0 : WX := fun _ _ _ _ => False
/-- the block's own context -/
abbrev Blk (X : Cx) (scope : Scope) (P : Cx → Prop) : Prop := ∀ (s : Shared) (H : Hp) (C : Addr) (cl : List (Str × Addr)) (fp : List Addr), P (X.blk s H scope (compEnvC scope cl C X.env) fp)
theorem lcL_len {gt : Tgt} {tt : En → Rs Bool} {fe : DEx} {ρ : En} : ∀ {ds ys : List PyData}, lcL gt tt fe ρ ds = .ok ys → ys.length ≤ ds.length
  | [], ys, h => by cases h; simp
  | d :: r, ys, h => by
    unfold lcL at h
    cases q : gt d ρ with
    | none => rw [q] at h; cases h
    | some ρ1 =>
      rw [q] at h
      dsimp only at h
      cases qt : tt ρ1 with
      | bad => rw [qt] at h; cases h
      | ex c => rw [qt] at h; cases h
      | ok b =>
        rw [qt] at h
        cases b with
        | false => exact Nat.le_succ_of_le (lcL_len h)
        | true =>
          cases qe : fe ρ1 with
          | bad => simp [Rs.bind, qe] at h
          | ex c => simp [Rs.bind, qe] at h
          | ok y =>
            cases ql : lcL gt tt fe ρ r with
            | bad => simp [Rs.bind, qe, ql] at h
            | ex c => simp [Rs.bind, qe, ql] at h
            | ok zs =>
              simp [Rs.bind, qe, ql] at h
              subst h
              have := lcL_len ql
              simp; omega
theorem lc_read {vs : List Nat} {fi : En → Rs (List PyData)} {t : TG} {gt : Tgt} {tt : En → Rs Bool} {σ : L2.St} {H : Hp} {Q : VK} (ht : TgtC X.K t gt vs)
    (h : tN X.K X.mg W (nLc vs fi gt tt fe) σ H Q) : tLc (tI X.K X.mg W fi) t (tT X.K X.mg W0 tt) (tE X.K X.mg W0 fe) vs σ H Q := by
  obtain ⟨ρ, F, G, o⟩ := h
  refine ⟨ρ, F, G, ?_⟩
  unfold nLc at o
  cases q : fi ρ with
  | bad => rw [q] at o; exact o
  | ex c => rw [q] at o; exact o
  | ok ds =>
    rw [q] at o
    dsimp only [Rs.bind] at o
    by_cases hl : ds.length ≤ sizeLine
    · rw [if_pos hl] at o
      intro J F1 H1 gr w D hD
      obtain ⟨Gw, Y, hw, hG, hY⟩ := w.ex
      cases ql : lcL gt tt fe (wipeE ρ vs) ds with
      | bad => rw [ql] at o; exact o.elim
      | ex c => rw [ql] at o; exact o.elim
      | ok ys =>
        rw [ql] at o
        have o' : ∀ p xs F' H', Grow F H F' H' → H p = none → F' p = none → H' p = some (.lst xs) → RpAll X.K F' xs ys → Q (.ref p) H' := o
        have nF : F1 D = none := gr.sub.free hD
        have Gw0 : Good X.K F1 H1 (wipe σ vs) (wipeE ρ vs) := (G.grow gr).wipe vs
        refine lc_it hw (fun i H => ∃ F acc done rest, ys = done ++ rest ∧ lcL gt tt fe (wipeE ρ vs) (ds.drop i) = .ok rest ∧ done.length ≤ i ∧ i ≤ ds.length ∧ Grow F1 H1 F H ∧ F D = none ∧ H D = some (.lst acc) ∧ RpAll X.K F acc done) ?_ ?_ ?_ ?_
        · exact ⟨F1, [], [], ys, rfl, ql, Nat.le_refl _, Nat.zero_le _, Grow.open gr.sub hD, nF, upd_same, .nil⟩
        · rintro i H _ ⟨F, acc, done, rest, _, _, _, _, g, _⟩
          exact hG H (g.f.trans g.sub)
        · rintro i x H H' hi ⟨F, acc, done, rest, e1, e2, e3, e4, g, fD, hDl, r⟩ y
          obtain ⟨F', d, hd, gd, rd⟩ := hY i F H x H' hi g.f g.sub y
          have ed : ds.drop i = d :: ds.drop (i + 1) := by
            rw [List.drop_eq_getElem_cons hi]
            congr 1
            have := List.getElem?_eq_getElem hi
            rw [hd] at this
            exact (Option.some.inj this).symm
          rw [ed] at e2
          unfold lcL at e2
          cases qg : gt d (wipeE ρ vs) with
          | none => rw [qg] at e2; cases e2
          | some ρ1 =>
            rw [qg] at e2
            dsimp only at e2
            have G2 : Good X.K F' H' (wipe σ vs) (wipeE ρ vs) := (Gw0.grow g).grow gd
            have hD' := gd.h _ _ hDl
            have fD' := gd.new D _ hDl fD
            refine ht F' H' (wipe σ vs) (wipeE ρ vs) x d ρ1 _ G2 rd qg fun σ' G3 wp => ⟨by rw [wp, wipe_wipe σ vs vs fun _ z => z], ?_⟩
            refine ⟨ρ1, F', G3, ?_⟩
            have hle : done.length < sizeLine := by omega
            cases qt : tt ρ1 with
            | bad => rw [qt] at e2; cases e2
            | ex c => rw [qt] at e2; cases e2
            | ok b =>
              rw [qt] at e2
              intro F3 H3 g3
              have gg := (g.trans gd).trans g3
              have hD3 := g3.h _ _ hD'
              have fD3 := g3.new D _ hD' fD'
              cases b with
              | false =>
                exact ⟨F3, acc, done, rest, e1, e2, by omega, hi, gg, fD3, hD3, r.mono (gd.f.trans g3.f)⟩
              | true =>
                refine ⟨ρ1, F3, G3.grow g3, ?_⟩
                cases qe : fe ρ1 with
                | bad => simp [Rs.bind, qe] at e2
                | ex c => simp [Rs.bind, qe] at e2
                | ok y =>
                  cases ql2 : lcL gt tt fe (wipeE ρ vs) (ds.drop (i + 1)) with
                  | bad => simp [Rs.bind, qe, ql2] at e2
                  | ex c => simp [Rs.bind, qe, ql2] at e2
                  | ok zs =>
                    simp [Rs.bind, qe, ql2] at e2
                    subst e2
                    intro v F4 H4 g4 r4
                    have hD4 := g4.h _ _ hD3
                    have fD4 := g4.new D _ hD3 fD3
                    have r' := r.mono (gd.f.trans (g3.f.trans g4.f))
                    have g5 := gg.trans g4
                    have hacc : acc.length = done.length := r.length
                    refine ⟨acc, hD4, by rw [hacc]; exact hle, F4, acc ++ [v], done ++ [y], zs, by rw [e1, List.append_assoc]; rfl, rfl, by simp; omega, hi, ⟨g5.f, fun b u z => ?_, fun b u z => ?_, g5.new, g5.nz⟩, fD4, upd_same, r'.append (.cons r4 .nil)⟩
                    · rw [upd_ne (ne_of_none z hD)]; exact g5.h _ _ z
                    · rw [upd_ne (ne_of_none z fD4)]; exact g5.sub _ _ z
        · rintro H ⟨F, acc, done, rest, e1, e2, e3, e4, g, fD, hDl, r⟩
          rw [List.drop_length] at e2
          cases e2
          rw [List.append_nil] at e1
          subst e1
          exact o' D acc F H (gr.trans g) (gr.h.free hD) fD hDl r
    · rw [if_neg hl] at o; exact o.elim
/-- [elt for tg in iter if ..] -/
theorem dn_lc {elt tg iter : Expr} {ifs : List Expr} {scope : Scope} {own : List (Str × Nat)} {fi : En → Rs (List PyData)} {t : TG} {gt : Tgt} {tt : En → Rs Bool} (hc : X.calm = true) (hN : X.N.Nodup) (hi : DI X W tg iter fi) (ok : BlkOk X.N X.env.scope scope own)
    (hg : Blk X scope fun Y => PG Y tg t) (htg : TgtC X.K t gt (own.map (·.2))) (ht : Blk X scope fun Y => PTs Y ifs (tT X.K X.mg W0 tt)) (he : Blk X scope fun Y => PE Y elt (tE X.K X.mg W0 fe)) (hs : ∀ x, foldedSetIterable iter X.env x = pure x := by intro _; rfl) :
    DN X W (.ListComp elt [⟨tg, iter, ifs, 0⟩] scope pos) (nLc (own.map (·.2)) fi gt tt fe) :=
  PE.imp (pe_lc hc hN hi ok hg ht he hs) fun σ H Q h => lc_read htg h
/-- y = [elt for tg in iter if ..] on one line, y to be changed later -/
theorem ds_ownLc {i : Nat} {y : Str} {py lpos : Pos} {elt tg iter : Expr} {ifs : List Expr} {scope : Scope} {own : List (Str × Nat)} {fi : En → Rs (List PyData)} {t : TG} {gt : Tgt} {tt : En → Rs Bool} (hc : X.calm = true) (hN : X.N.Nodup) (hi : DI X W tg iter fi) (ok : BlkOk X.N X.env.scope scope own)
    (hg : Blk X scope fun Y => PG Y tg t) (htg : TgtC X.K t gt (own.map (·.2))) (ht : Blk X scope fun Y => PTs Y ifs (tT X.K X.mg W0 tt)) (he : Blk X scope fun Y => PE Y elt (tE X.K X.mg W0 fe))
    (hy : X.N[i]? = some y := by rfl) (hyl : X.env.scope.names.lookup y = some .local := by rfl)
    (hsw : swapsWith (.ListComp elt [⟨tg, iter, ifs, 0⟩] scope lpos) (some (.Name y py)) pos.line X.env = pure true := by exact sw_true rfl rfl rfl (by decide +kernel)) (hs : ∀ x, foldedSetIterable iter X.env x = pure x := by intro _; rfl) :
    DSt X W F0 H0 (.Assign [.Name y py] (.ListComp elt [⟨tg, iter, ifs, 0⟩] scope lpos) pos) (sOwn i (nLc (own.map (·.2)) fi gt tt fe)) :=
  PS.imp (ps_setLc hc hN hy hyl hsw hi ok hg ht he hs) fun D σ H ⟨ρ, F, G, o⟩ => lc_read htg (newS G o fun F' H' ds p xs g o' G' n1 n2 h r =>
    o' _ F' H' (G'.putOwn (x := .own ds) ⟨p, xs, rfl, h, n2, r⟩ (G.gr.h.free n1) fun j y hj ej oy z => by
      obtain ⟨u, hu, _⟩ := G.gd.own_at g.h ej oy z
      rw [n1] at hu; cases hu))
/-- an owned list, frozen behind the statement -/
def sAft (i : Nat) (f : DS) : DS := fun ρ => match f ρ with
  | .nx ρ' => .nx (fzAt i ρ')
  | r => r
theorem ds_aft (i : Nat) (h : DSt X W F0 H0 st f) : DSt X W F0 H0 st (sAft i f) := PS.imp h fun D σ H ⟨ρ, F, G, o⟩ => ⟨ρ, F, G, by
  unfold sAft at o
  cases q : f ρ with
  | nx ρ' =>
    rw [q] at o
    intro σ' F' H' G'
    obtain ⟨F2, G2⟩ := G'.fz i
    exact o σ' F2 H' G2
  | rt d => rw [q] at o; exact o
  | rtE d ρ' => rw [q] at o; exact o
  | bk ρ' => rw [q] at o; exact o
  | ct ρ' => rw [q] at o; exact o
  | ex c ρ' => rw [q] at o; exact o
  | bad => rw [q] at o; exact o⟩
/-! ### a def -/
def startE (n : Nat) (ds : List PyData) : En := ds.map (fun d => some (LV.fz d)) ++ List.replicate (n - ds.length) none
def outD : Fl → Rs PyData
  | .rt d => .ok d
  | .rtE d _ => .ok d
  | .nx _ => .ok .none
  | .ex c _ => .ex c
  | _ => .bad
theorem RpAll.start {K : PySem.W.Frag} {F H : Hp} {N : List Str} {vs : List V} {ds : List PyData} (s : Same F H) (h : RpAll K F vs ds) : Good K F H (L2.start N vs) (startE N.length ds) := by
  have hl := h.length
  refine ⟨s, by simp [L2.start, startE, hl], fun i x e => ?_, fun i j x y v w a ei ej si sj f1 f2 ne => ?_⟩
  · unfold startE at e
    unfold L2.start
    by_cases hi : i < ds.length
    · rw [List.getElem?_append_left (by simpa using hi), List.getElem?_map] at e
      rw [List.getElem?_append_left (by simpa [hl] using hi), List.getElem?_map]
      cases q : ds[i]? with
      | none => rw [q] at e; cases e
      | some d =>
        rw [q] at e
        cases e
        obtain ⟨v, h1, h2⟩ := h.get q
        exact ⟨v, by rw [h1]; rfl, h2⟩
    · rw [List.getElem?_append_right (by simpa using hi)] at e
      have := List.mem_of_getElem? e
      rw [List.mem_replicate] at this
      exact nomatch this.2
  · exfalso
    unfold startE at ei
    by_cases hi : i < ds.length
    · rw [List.getElem?_append_left (by simpa using hi), List.getElem?_map] at ei
      cases q : ds[i]? with
      | none => rw [q] at ei; cases ei
      | some d => rw [q] at ei; cases ei; exact f1
    · rw [List.getElem?_append_right (by simpa using hi)] at ei
      have := List.mem_of_getElem? ei
      rw [List.mem_replicate] at this
      exact nomatch this.2
theorem startE_fz {n : Nat} {ds : List PyData} {i : Nat} {x : LV} (e : (startE n ds)[i]? = some (some x)) : x.isOwn = false := by
  unfold startE at e
  by_cases hi : i < ds.length
  · rw [List.getElem?_append_left (by simpa using hi), List.getElem?_map] at e
    cases q : ds[i]? with
    | none => rw [q] at e; cases e
    | some d => rw [q] at e; cases e; rfl
  · rw [List.getElem?_append_right (by simpa using hi)] at e
    have := List.mem_of_getElem? e
    rw [List.mem_replicate] at this
    exact nomatch this.2
end
section
variable {P : Program} {w : World} {K : PySem.W.Frag} {mg : Str → Option Value} {base : Heap}
/-- THE RULE: a def by its body's denotation f; M is what it is worth where it is not «bad» -/
theorem ok_at {x : Str} {st : Stmt} {fa : Addr} {fd : FuncData} {N ps : List Str} {k : Nat} {f : DS} {M : List PyData → Rs PyData} (F : Fun K x x st fa fd) (hm : mg x = some (.ref fa)) (hb : Binds K fd ps []) (S : FnScope N ps (defScope st))
    (hM : ∀ ds, ds.length = ps.length → M ds = .bad ∨ outD (f (startE N.length ds)) = M ds)
    (body : ∀ (cdv : Value) (A : Around) (outer : List Env) (s : Shared) (H : Hp) (E : XK) (F0 H0 : Hp), Room k (cxOf (L2.CX P w) P w K mg base N x (defScope st) fa cdv A outer s H E).A →
      Takes (cxOf (L2.CX P w) P w K mg base N x (defScope st) fa cdv A outer s H E) (fun cls d _ H => E cls d H) →
      PassesOwn (model P w) (cxOf (L2.CX P w) P w K mg base N x (defScope st) fa cdv A outer s H E).A (cxOf (L2.CX P w) P w K mg base N x (defScope st) fa cdv A outer s H E).env (cxOf (L2.CX P w) P w K mg base N x (defScope st) fa cdv A outer s H E).xe →
      DSs (cxOf (L2.CX P w) P w K mg base N x (defScope st) fa cdv A outer s H E) (fun cls d _ H => E cls d H) F0 H0 (defBody st) f) : FnOk P w K mg base (L2.CX P w) (k + 1) fa fd ps (spD K mg ps.length M) := by
  refine F.okX S (fun vs H Q E ⟨Fz, ds, _, r, e, _⟩ => r.length.trans e) (fun cdv A outer s H vs Q E hr h => ?_)
  obtain ⟨Fz, ds, sm, r, hl, o⟩ := h
  refine ⟨_, body cdv A outer s H E Fz H hr (takes_of rfl rfl rfl rfl) (passes_of rfl), ?_⟩
  refine ⟨startE N.length ds, Fz, ⟨.refl sm, r.start sm, fun i x v a e _ f => by have o := f.own; rw [startE_fz e] at o; cases o⟩, ?_⟩
  rcases hM ds hl with hM | hM
  · rw [hM] at o; exact o.elim
  · rw [← hM] at o
    cases q : f (startE N.length ds) with
    | rt d => rw [q] at o; exact fun v F' H' g r => o v F' H' g r
    | rtE d ρ => rw [q] at o; exact fun v σ F' H' G r => o v F' H' G.gr r
    | nx ρ => rw [q] at o; exact fun σ F' H' G => o .non F' H' G.gr .non
    | ex c ρ => rw [q] at o; exact fun C σ F' H' G m => o C H' G.gr.h m
    | bk ρ => rw [q] at o; exact o.elim
    | ct ρ => rw [q] at o; exact o.elim
    | bad => rw [q] at o; exact o.elim
theorem ok_of {x : Str} {st : Stmt} {fa : Addr} {fd : FuncData} {N ps : List Str} {k : Nat} {f : DS} {M : List PyData → Rs PyData} (F : Fun K x x st fa fd) (hm : mg x = some (.ref fa)) (hb : Binds K fd ps []) (S : FnScope N ps (defScope st))
    (hM : ∀ ds, ds.length = ps.length → M ds = .bad ∨ outD (f (startE N.length ds)) = M ds)
    (body : ∀ (cdv : Value) (A : Around) (outer : List Env) (s : Shared) (H : Hp) (E : XK) (F0 H0 : Hp), Room k (cxOf (L2.CX P w) P w K mg base N x (defScope st) fa cdv A outer s H E).A →
      Takes (cxOf (L2.CX P w) P w K mg base N x (defScope st) fa cdv A outer s H E) (fun cls d _ H => E cls d H) →
      PassesOwn (model P w) (cxOf (L2.CX P w) P w K mg base N x (defScope st) fa cdv A outer s H E).A (cxOf (L2.CX P w) P w K mg base N x (defScope st) fa cdv A outer s H E).env (cxOf (L2.CX P w) P w K mg base N x (defScope st) fa cdv A outer s H E).xe →
      DSs (cxOf (L2.CX P w) P w K mg base N x (defScope st) fa cdv A outer s H E) (fun cls d _ H => E cls d H) F0 H0 (defBody st) f) : Ok P w K mg base x (k + 1) ps M :=
  ⟨fa, fd, ok_at F hm hb S hM body, hm, F.kp, hb⟩
end
end DL
namespace DL
open PySem PySem.Spec L2
section
variable {X : Cx} {W : WX} {F0 H0 : Hp} {st : Stmt} {rest body : List Stmt} {f g : DS} {a b c e : Expr} {fa fb fc fe : DEx} {pos : Pos} {es : List Expr} {fs : En → Rs (List PyData)}
/-- a chain as a test -/
def t3 (g g' : PyData → PyData → Option PyData) (fa fb fc : DEx) : En → Rs Bool := fun ρ => (e3 g g' fa fb fc ρ).bind dBool
theorem dt_chain {op op' : CmpOp} {r r' : R2} {g g' : PyData → PyData → Option PyData} (ho : OpR X (compareOp op) r) (ho' : OpR X (compareOp op') r') (hg : Ref2 X.K r g) (hg' : Ref2 X.K r' g') (ha : DB X W a fa) (hb : DB X W b fb) (hc : DB X W c fc)
    (hpt : PT X (.Compare a [op, op'] [b, c] pos) (tTest (tChain r r' (tB X.K X.mg W fa) (tB X.K X.mg W fb) (tB X.K X.mg W fc)))) : DT X W (.Compare a [op, op'] [b, c] pos) (t3 g g' fa fb fc) :=
  PT.imp hpt fun σ H Q h => by
    obtain ⟨ρ, F, G, o⟩ := h
    have e : t3 g g' fa fb fc ρ = (fa ρ).bind fun a => (fb ρ).bind fun b => (Rs.of (g a b)).bind fun k => match k with
      | .bool true => (fc ρ).bind fun c => (Rs.of (g' b c)).bind dBool
      | .bool false => .ok false
      | _ => .bad := by
      unfold t3 e3
      cases fa ρ <;> try rfl
      cases fb ρ <;> try rfl
      rename_i x y
      show Rs.bind (Rs.bind (Rs.of (g x y)) _) dBool = Rs.bind (Rs.of (g x y)) _
      cases g x y with
      | none => rfl
      | some k =>
        cases k <;> try rfl
        rename_i k
        cases k <;> try rfl
        show Rs.bind (Rs.bind (fc ρ) _) dBool = Rs.bind (fc ρ) _
        cases fc ρ <;> rfl
    rw [e] at o
    refine bin_b (k := fun a b => (Rs.of (g a b)).bind fun k => match k with
      | .bool true => (fc ρ).bind fun c => (Rs.of (g' b c)).bind dBool
      | .bool false => .ok false
      | _ => .bad) (O := fun F H r => OutT X.K X.mg W σ F H r Q ∧ Good X.K F H σ ρ) ⟨ρ, F, G, o, G⟩ (fun F H F' H' c g o => ⟨OutT.ex g o.1, o.2.grow g⟩) (fun F H c o => o.1) (fun F H o => o.1) fun F H F' H' a b x y o gr rx ry => ?_
    cases q : g a b with
    | none => rw [q] at o; exact o.1.elim
    | some d =>
      rw [q] at o
      refine hg F' H' x y a b d _ gr.sub rx ry q fun v F2 H2 g2 r2 => ?_
      cases d with
      | bool k =>
        cases r2
        refine ⟨k, rfl, ?_⟩
        cases k with
        | false => exact ⟨false, rfl, o.1 F2 H2 (gr.trans g2)⟩
        | true =>
          have o1 : OutT X.K X.mg W σ F H ((fc ρ).bind fun c => (Rs.of (g' b c)).bind dBool) Q := o.1
          refine ⟨ρ, F2, o.2.grow (gr.trans g2), ?_⟩
          cases qc : fc ρ with
          | bad => rw [qc] at o1; exact o1
          | ex c => rw [qc] at o1; exact OutT.ex (gr.trans g2) o1
          | ok dc =>
            rw [qc] at o1
            intro z F3 H3 g3 r3
            cases q' : g' b dc with
            | none => simp only [Rs.bind, q', Rs.of] at o1; exact o1.elim
            | some d' =>
              simp only [Rs.bind, q', Rs.of] at o1
              refine hg' F3 H3 y z b dc d' _ g3.sub (ry.mono (g2.trans g3)) r3 q' fun v F4 H4 g4 r4 => ?_
              cases d' with
              | bool k =>
                cases r4
                exact ⟨k, rfl, o1 F4 H4 ((gr.trans g2).trans (g3.trans g4))⟩
              | _ => exact o1.elim
      | _ => exact o.1.elim
/-! ### the tests of a comprehension -/
theorem PTs.imp {es : List Expr} {t t' : TT} (h : PTs X es t) (i : ∀ σ H Q, t' σ H Q → t σ H Q) : PTs X es t' := ⟨fun pins s σ H Q I x => h.run pins s σ H Q I (i σ H Q x)⟩
def tTrue : En → Rs Bool := fun _ => .ok true
theorem dts_nil : PTs X [] (tT X.K X.mg W tTrue) := PTs.imp pts_nil fun σ H Q ⟨ρ, F, G, o⟩ => o F H (.refl G.sub)
theorem dts_one {ge : En → Rs Bool} (h : DT X W c ge) : PTs X [c] (tT X.K X.mg W ge) := pts_one h
/-! ### anything walked -/
theorem PI.or {tg iter : Expr} {t t' : TI} (h : PI X tg iter t) (h' : PI X tg iter t') : PI X tg iter (fun σ H R => t σ H R ∨ t' σ H R) := ⟨fun pins s σ H R I x => x.elim (h.run pins s σ H R I) (h'.run pins s σ H R I)⟩
def iSeq (fe : DEx) : En → Rs (List PyData) := fun ρ => (fe ρ).bind fun d => .of (seqD d)
theorem di_seq {tg : Expr} (h : DE X W e fe) : DI X W tg e (iSeq fe) := PI.imp (PI.or (di_list (tg := tg) h) (PI.or (di_tup (tg := tg) h) (di_str (tg := tg) h))) fun σ H R ⟨ρ, F, G, o⟩ => by
  unfold iSeq at o
  cases q : fe ρ with
  | bad => rw [q] at o; exact o.elim
  | ex c => rw [q] at o; exact .inl ⟨ρ, F, G, by unfold iL; rw [q]; exact o⟩
  | ok d =>
    rw [q] at o
    cases d with
    | list ds => exact .inl ⟨ρ, F, G, by unfold iL; rw [q]; exact o⟩
    | tuple ds => exact .inr (.inl ⟨ρ, F, G, by unfold iT; rw [q]; exact o⟩)
    | str z => exact .inr (.inr ⟨ρ, F, G, by unfold iS; rw [q]; exact o⟩)
    | none => exact o.elim
    | bool _ => exact o.elim
    | int _ => exact o.elim
    | dict _ => exact o.elim
/-! ### tuple(x), list(x) -/
def dTuple : List PyData → Option PyData
  | [.list ds] => some (.tuple ds)
  | [.tuple ds] => some (.tuple ds)
  | _ => none
theorem ref_tuple (K : PySem.W.Frag) : RefA K (fun xs H Q => ∃ p ys, xs = [.ref p] ∧ ((SqL K H p ys ∧ ∀ l, H l = none → Q (.ref l) (upd H l (.tup ys))) ∨ (SqT K H p ys ∧ Q (.ref p) H))) dTuple := by
  intro F H vs ds d Q s b e k
  unfold dTuple at e
  split at e <;> cases e
  · obtain ⟨v, rfl, r⟩ := b.one
    obtain ⟨p, xs, rfl, q1, q2⟩ := r.list s
    exact ⟨p, xs, rfl, .inl ⟨.inl q1, fun l hl => k _ _ _ (Grow.laid s hl) (.tup (.inl (.inl upd_same)) (q2.mono (same_upd (s.free hl))))⟩⟩
  · obtain ⟨v, rfl, r⟩ := b.one
    obtain ⟨p, xs, rfl, q1, q2⟩ := r.tup s
    exact ⟨p, xs, rfl, .inr ⟨q1, k _ F H (.refl s) (r.rp fun _ => by simp)⟩⟩
/-- calls of built-ins that give a new list -/
def RefN (K : PySem.W.Frag) (r : List V → Hp → VK → Prop) (g : List PyData → Option (List PyData)) : Prop :=
  ∀ (F H : Hp) vs ds d (Q : VK), Same F H → BpAll K F H vs ds → g ds = some d → (∀ p xs F' H', Grow F H F' H' → H p = none → F' p = none → H' p = some (.lst xs) → RpAll K F' xs d → Q (.ref p) H') → r vs H Q
def nB (g : List PyData → Option (List PyData)) (fs : En → Rs (List PyData)) : En → Rs (List PyData) := fun ρ => (fs ρ).bind fun ds => .of (g ds)
theorem dn_callTy {T : String} {x : Str} {r : List V → Hp → VK → Prop} {g : List PyData → Option (List PyData)} {p : Pos} (hc : CallR X (.type T) r) (hr : RefN X.K r g) (hg : Gl X x) (hm : X.mg x = none) (hv : bootBuiltins x = some (.type T)) (ha : DAB X W (e :: es) fs) (hn : x ≠ "__name__" := by decide) (hdb : (x == ("__debug__" : Str)) = false := by decide)
    (he : starEach (e :: es) X.env = (false, eval e X.env) :: starEach es X.env := by rfl) (hpl : (backTo pos (starEach es X.env)).any (·.1) = false := by rfl) : DN X W (.Call (.Name x p) (e :: es) [] pos) (nB g fs) :=
  PE.imp (pe_callTy hc hg hm hv ha hn hdb he hpl) fun σ H Q ⟨ρ, F, G, o⟩ => argsb_then (O := fun F H r => OutN X.K X.mg W σ F H r Q) G o (fun _ _ _ o => o) (fun _ _ o => o) fun F' H' ds vs gr G' o' b => by
    cases q : g ds with
    | none => rw [q] at o'; exact o'.elim
    | some d =>
      rw [q] at o'
      exact hr F' H' vs ds d Q gr.sub b q fun p xs F2 H2 g2 n1 n2 h3 r2 => o' p xs F2 H2 (gr.trans g2) (gr.h.free n1) n2 h3 r2
theorem dn_callB {id : String} {x : Str} {r : List V → Hp → VK → Prop} {g : List PyData → Option (List PyData)} {p : Pos} (hc : CallR X (.builtin id) r) (hr : RefN X.K r g) (hg : Gl X x) (hm : X.mg x = none) (hv : bootBuiltins x = some (.builtin id)) (ha : DAB X W (e :: es) fs) (hn : x ≠ "__name__" := by decide) (hdb : (x == ("__debug__" : Str)) = false := by decide)
    (he : starEach (e :: es) X.env = (false, eval e X.env) :: starEach es X.env := by rfl) (hpl : (backTo pos (starEach es X.env)).any (·.1) = false := by rfl) : DN X W (.Call (.Name x p) (e :: es) [] pos) (nB g fs) :=
  PE.imp (pe_callB hc hg hm hv ha hn hdb he hpl) fun σ H Q ⟨ρ, F, G, o⟩ => argsb_then (O := fun F H r => OutN X.K X.mg W σ F H r Q) G o (fun _ _ _ o => o) (fun _ _ o => o) fun F' H' ds vs gr G' o' b => by
    cases q : g ds with
    | none => rw [q] at o'; exact o'.elim
    | some d =>
      rw [q] at o'
      exact hr F' H' vs ds d Q gr.sub b q fun p xs F2 H2 g2 n1 n2 h3 r2 => o' p xs F2 H2 (gr.trans g2) (gr.h.free n1) n2 h3 r2
def dList : List PyData → Option (List PyData)
  | [.list ds] => some ds
  | [.tuple ds] => some ds
  | _ => none
theorem ref_list (K : PySem.W.Frag) : RefN K (fun xs H Q => ∃ p ys, xs = [.ref p] ∧ (SqL K H p ys ∨ SqT K H p ys) ∧ ∀ l, H l = none → Q (.ref l) (upd H l (.lst ys))) dList := by
  intro F H vs ds d Q s b e k
  unfold dList at e
  split at e <;> cases e
  · obtain ⟨v, rfl, r⟩ := b.one
    obtain ⟨p, xs, rfl, q1, q2⟩ := r.list s
    exact ⟨p, xs, rfl, .inl (.inl q1), fun l hl => k l xs F _ (Grow.open s hl) hl (s.free hl) upd_same q2⟩
  · obtain ⟨v, rfl, r⟩ := b.one
    obtain ⟨p, xs, rfl, q1, q2⟩ := r.tup s
    exact ⟨p, xs, rfl, .inr q1, fun l hl => k l xs F _ (Grow.open s hl) hl (s.free hl) upd_same q2⟩
/-- sorted(texts), fewer than 64 -/
def leS (a b : Str) : Bool := !decide (b.cps.toList < a.cps.toList)
def sortS (xs : List Str) : List Str := xs.mergeSort leS
theorem leS_total (a b : Str) : (leS a b || leS b a) = true := by
  unfold leS
  rw [Bool.or_eq_true]
  simp only [Bool.not_eq_true', decide_eq_false_iff_not]
  by_cases h : b.cps.toList < a.cps.toList
  · exact .inr (List.lt_asymm h)
  · exact .inl h
theorem leS_trans (a b c : Str) (h1 : leS a b = true) (h2 : leS b c = true) : leS a c = true := by
  unfold leS at *
  simp only [Bool.not_eq_true', decide_eq_false_iff_not, List.not_lt] at *
  exact List.le_trans h1 h2
theorem str_ext {a b : Str} (h : a.cps.toList = b.cps.toList) : a = b := by
  obtain ⟨x⟩ := a
  obtain ⟨y⟩ := b
  have : x = y := by
    apply Array.ext'
    exact h
  rw [this]
theorem leS_antisymm {a b : Str} (h1 : leS a b = true) (h2 : leS b a = true) : a = b := by
  unfold leS at *
  simp only [Bool.not_eq_true', decide_eq_false_iff_not, List.not_lt] at *
  exact str_ext (List.le_antisymm h1 h2)
theorem sortS_unique {xs ys : List Str} (hp : ys.Perm xs) (hs : ys.Pairwise fun a b => leS a b = true) : ys = sortS xs := by
  refine List.Perm.eq_of_pairwise (le := fun a b => leS a b = true) (fun a b _ _ h1 h2 => leS_antisymm h1 h2) hs ?_ (hp.trans (List.mergeSort_perm xs leS).symm)
  exact List.pairwise_mergeSort (fun a b c => leS_trans a b c) leS_total xs
def dSorted : List PyData → Option (List PyData)
  | [.list ds] => (strsOf ds).bind fun xs => if xs.length < 64 then some ((sortS xs).map PyData.str) else none
  | _ => none
end
end DL
namespace DL
open PySem PySem.Spec L2
/-- the built-ins are the built-ins -/
structure Bi (mg : Str → Option Value) : Prop where
  b_len : mg "len" = none
  b_isinstance : mg "isinstance" = none
  b_int : mg "int" = none
  b_str : mg "str" = none
  b_bool : mg "bool" = none
  b_list : mg "list" = none
  b_tuple : mg "tuple" = none
  b_dict : mg "dict" = none
  b_set : mg "set" = none
  b_range : mg "range" = none
  b_enumerate : mg "enumerate" = none
  b_zip : mg "zip" = none
  b_sorted : mg "sorted" = none
  b_min : mg "min" = none
  b_max : mg "max" = none
  b_sum : mg "sum" = none
section
variable {X : Cx} {W : WX} {F0 H0 : Hp} {st : Stmt} {rest body : List Stmt} {f g : DS} {a b c e : Expr} {fa fb fc fe : DEx} {pos : Pos} {es : List Expr} {fs : En → Rs (List PyData)}
/-! ### try -/
/-- which raised classes are known (the first list), and what an except clause of a class takes -/
structure ExmT (K : PySem.W.Frag) (mg : Str → Option Value) (cs : List (Str × List Str)) (hs : List Str) : Prop where
  all : ∀ p ∈ cs, ∀ h ∈ hs, ∀ C C', mg p.1 = some (.ref C) → mg h = some (.ref C') → PySem.W.exmOne K (.ref C) (.ref C') = some (p.2.contains h)
/-- the first clause that takes a class -/
def pick (sup : List Str) : List (Str × DS) → Option DS
  | [] => none
  | (h, f) :: r => if sup.contains h then some f else pick sup r
def sTry (cs : List (Str × List Str)) (f : DS) (hs : List (Str × DS)) : DS := fun ρ => match f ρ with
  | .ex c ρ' => match cs.lookup c with
    | some sup => (match pick sup hs with
      | some g => g ρ'
      | none => .ex c ρ')
    | none => .bad
  | r => r
inductive HdD (X : Cx) (F0 H0 : Hp) : List ExceptHandler → List (Str × DS) → Prop
  | nil : HdD X F0 H0 [] []
  | cons {x : Str} {b₀ : Stmt} {suite : List Stmt} {np pos' : Pos} {g : DS} {hds : List ExceptHandler} {l : List (Str × DS)} (hx : ExcC X.K X.mg x)
      (hsu : ∀ (a : Addr) (oe : Obj) (cls : Value) (d : Option Addr) (pn : List (Addr × Obj)), Zc cls d oe → (∃ vs, oe.data = .fields vs) → DSs (X.suite a ((a, oe) :: pn)) W0 F0 H0 (b₀ :: suite) g) (r : HdD X F0 H0 hds l) (hg : Gl X x := by rfl) (hdb : (x == ("__debug__" : Str)) = false := by decide) :
      HdD X F0 H0 (.ExceptHandler (some (.Name x np)) none (b₀ :: suite) pos' :: hds) ((x, g) :: l)
theorem HdD.ok {hds : List ExceptHandler} {l : List (Str × DS)} (h : HdD X F0 H0 hds l) : ∃ l', HdsOk X hds l' ∧ l'.length = l.length ∧
    ∀ (i : Nat) x g, l[i]? = some (x, g) → ∃ C, X.mg x = some (.ref C) ∧ l'[i]? = some (.ref C, fun _ _ _ => tS X.K X.mg W0 F0 H0 g) := by
  induction h with
  | nil => exact ⟨[], .nil, rfl, fun i x g e => by simp at e⟩
  | @cons x b₀ suite np pos' g hds l hx hsu r hg hdb ih =>
    obtain ⟨l', h1, h2, h3⟩ := ih
    obtain ⟨C, c1, _⟩ := hx.ex
    refine ⟨(.ref C, fun _ _ _ => tS X.K X.mg W0 F0 H0 g) :: l', .cons ⟨hg, hdb, .inl c1⟩ (fun a oe cls d pn hz hf => hsu a oe cls d pn hz hf) h1, by simp [h2], fun i y k e => ?_⟩
    cases i with
    | zero => simp at e; obtain ⟨rfl, rfl⟩ := e; exact ⟨C, c1, rfl⟩
    | succ i => simp at e ⊢; exact h3 i y k e
theorem OutS.W0 {r : Fl} {D : Ends} (h : OutS X.K X.mg W F0 H0 r D) (n : ∀ c ρ, r ≠ .ex c ρ) : OutS X.K X.mg W0 F0 H0 r D := by
  cases r with
  | ex c ρ => exact absurd rfl (n c ρ)
  | _ => exact h
def noEx : Fl → Bool
  | .ex _ _ => false
  | _ => true
theorem many_pick {cs : List (Str × List Str)} {sup : List Str} {c : Str} {C : Addr} {D : Ends} {ρ : En} {σ : L2.St} {F H : Hp} (G : GoodS X.K F0 H0 F H σ ρ) (hc : X.mg c = some (.ref C)) :
    ∀ {l : List (Str × DS)} {l' : List (Value × (Addr → Value → Option Addr → TS))}, l'.length = l.length →
    (∀ (i : Nat) x g, l[i]? = some (x, g) → ∃ C', X.mg x = some (.ref C') ∧ l'[i]? = some (.ref C', fun _ _ _ => tS X.K X.mg W0 F0 H0 g)) →
    (∀ h ∈ l.map (·.1), ∀ C', X.mg h = some (.ref C') → PySem.W.exmOne X.K (.ref C) (.ref C') = some (sup.contains h)) →
    (match pick sup l with
      | some g => OutS X.K X.mg W0 F0 H0 (g ρ) D
      | none => W (.ref C) none σ H) → wMany X.K W D l' (.ref C) none σ H
  | [], [], _, _, _, h => h
  | [], _ :: _, e, _, _, _ => by simp at e
  | _ :: _, [], e, _, _, _ => by simp at e
  | (x, g) :: l, (v, ts) :: l', e, hl, hx, h => by
    obtain ⟨C', m, e0⟩ := hl 0 x g rfl
    have e1 : (v, ts) = (Value.ref C', fun _ _ _ => tS X.K X.mg W0 F0 H0 g) := by simpa using e0
    obtain ⟨rfl, rfl⟩ := Prod.mk.inj e1
    have hx0 := hx x (by simp) C' m
    refine ⟨_, hx0, fun hb a _ => ?_, fun hb => ?_⟩
    · unfold pick at h
      rw [if_pos hb] at h
      exact ⟨ρ, F, G, h⟩
    · unfold pick at h
      rw [if_neg (by rw [hb]; exact Bool.false_ne_true)] at h
      exact many_pick (cs := cs) G hc (by simpa using e) (fun i y k z => hl (i + 1) y k (by simpa using z)) (fun y hy => hx y (by simp at hy ⊢; exact .inr hy)) h
theorem lookup_mem {cs : List (Str × List Str)} {c : Str} {sup : List Str} (h : cs.lookup c = some sup) : (c, sup) ∈ cs := by
  induction cs with
  | nil => cases h
  | cons p r ih =>
    obtain ⟨x, y⟩ := p
    rw [List.lookup_cons] at h
    by_cases hc : c == x
    · rw [hc] at h
      have : c = x := by simpa using hc
      subst this
      cases h
      exact List.mem_cons_self
    · have : (c == x) = false := by simpa using hc
      rw [this] at h
      exact List.mem_cons_of_mem _ (ih h)
/-- a handler never raises: said by its denotation -/
def Calm (hs : List (Str × DS)) : Prop := ∀ p ∈ hs, ∀ ρ c ρ', p.2 ρ ≠ .ex c ρ'
theorem pick_mem {sup : List Str} {g : DS} : ∀ {hs : List (Str × DS)}, pick sup hs = some g → ∃ h, (h, g) ∈ hs
  | [], e => by cases e
  | (h, k) :: r, e => by
    unfold pick at e
    split at e
    · cases e; exact ⟨h, List.mem_cons_self⟩
    · obtain ⟨h', m⟩ := pick_mem e
      exact ⟨h', List.mem_cons_of_mem _ m⟩
theorem ds_try {h₀ : ExceptHandler} {hds : List ExceptHandler} {cs : List (Str × List Str)} {hs : List (Str × DS)} (h1 : X.stack = X.env :: X.outer) (h2 : X.env.frame = some X.env.locals) (tk : Takes X W) (hx : ExmT X.K X.mg cs (hs.map (·.1)))
    (hb : ∀ (W2 : WX) (pn : List (Addr × Obj)) (xe : Value → Shared → Prop), Takes (X.tr pn xe) W2 → PassesOwn (model X.prog X.w) X.A X.env xe → DSs (X.tr pn xe) W2 F0 H0 body f)
    (hh : HdD X F0 H0 (h₀ :: hds) hs) (hcalm : Calm hs) : DSt X W F0 H0 (.Try body (h₀ :: hds) [] [] pos) (sTry cs f hs) := by
  obtain ⟨l', k1, k2, k3⟩ := hh.ok
  refine PS.imp (ps_try_many h1 h2 tk (tb := fun W2 => tS X.K X.mg W2 F0 H0 f) (fun W2 pn xe tk2 po2 => hb W2 pn xe tk2 po2) k1) fun D σ H ⟨ρ, F, G, o⟩ => ⟨ρ, F, G, ?_⟩
  unfold sTry at o
  cases q : f ρ with
  | ex c ρ' =>
    rw [q] at o
    dsimp only at o
    intro C σ' F' H' G' m
    cases ql : cs.lookup c with
    | none => rw [ql] at o; exact o.elim
    | some sup =>
      rw [ql] at o
      dsimp only at o
      refine many_pick (cs := cs) G' m k2 k3 (fun h hm C' m' => hx.all (c, sup) (lookup_mem ql) h hm C C' m m') ?_
      cases qp : pick sup hs with
      | none => rw [qp] at o; exact o C σ' F' H' G' m
      | some g =>
        rw [qp] at o
        obtain ⟨h, hm⟩ := pick_mem qp
        exact OutS.W0 o fun c' ρ2 => hcalm (h, g) hm ρ' c' ρ2
  | nx ρ' => rw [q] at o; exact o
  | rt d => rw [q] at o; exact o
  | rtE d ρ' => rw [q] at o; exact o
  | bk ρ' => rw [q] at o; exact o
  | ct ρ' => rw [q] at o; exact o
  | bad => rw [q] at o; exact o
/-! ### sorted, max, min, sum -/
theorem rising_pw : ∀ {x : Str} {r : List Str}, PyProof.Rows.risingS x r = true → (x :: r).Pairwise fun a b => leS a b = true
  | x, [], _ => by simp
  | x, y :: r, h => by
    have h' : (!PySem.Spec.ltCps y.cps.toList x.cps.toList && PyProof.Rows.risingS y r) = true := h
    rw [Bool.and_eq_true] at h'
    have ih := rising_pw h'.2
    have hxy : leS x y = true := by
      unfold leS
      have := h'.1
      rw [PyProof.Rows.ltCps_eq] at this
      exact this
    refine List.pairwise_cons.mpr ⟨fun z hz => ?_, ih⟩
    rcases List.mem_cons.mp hz with e | hz
    · subst e; exact hxy
    · exact leS_trans x y z hxy ((List.pairwise_cons.mp ih).1 z hz)
def rSortedS' := @rSortedS
theorem ref_sorted (K : PySem.W.Frag) : RefN K (rSortedS K) dSorted := by
  intro F H vs ds d Q s b e k
  unfold dSorted at e
  split at e
  · rename_i es
    cases q : strsOf es with
    | none => rw [q] at e; cases e
    | some xs =>
      rw [q] at e
      dsimp only [Option.bind] at e
      split at e
      · cases e
        rename_i h64
        have hq := strsOf_eq q
        subst hq
        obtain ⟨v, rfl, r⟩ := b.one
        obtain ⟨p, ys, rfl, q1, q2⟩ := r.list s
        have e2 := q2.inj_strs
        subst e2
        refine ⟨p, xs, rfl, .inl q1, h64, fun zs l hp hs hl => ?_⟩
        have e3 : zs = sortS xs := by
          refine sortS_unique hp ?_
          cases zs with
          | nil => exact .nil
          | cons z r => exact rising_pw hs
        subst e3
        exact k l _ F _ (Grow.open s hl) hl (s.free hl) upd_same (RpAll.strs _ fun x hx => q2.sok x (hp.mem_iff.mp hx))
      · cases e
  · cases e
/-- the greatest of ints -/
def maxI : List Int → Option Int
  | [] => none
  | x :: r => some (r.foldl (fun a b => if a < b then b else a) x)
def minI : List Int → Option Int
  | [] => none
  | x :: r => some (r.foldl (fun a b => if b < a then b else a) x)
theorem foldl_max : ∀ (r : List Int) (x : Int), (r.foldl (fun a b => if a < b then b else a) x) ∈ x :: r ∧ ∀ y ∈ x :: r, y ≤ r.foldl (fun a b => if a < b then b else a) x
  | [], x => by simp
  | y :: r, x => by
    rw [List.foldl_cons]
    obtain ⟨h1, h2⟩ := foldl_max r (if x < y then y else x)
    refine ⟨?_, fun z hz => ?_⟩
    · rcases List.mem_cons.mp h1 with h | h
      · rw [h]; split <;> simp
      · exact List.mem_cons_of_mem _ (List.mem_cons_of_mem _ h)
    · have h3 := h2 _ List.mem_cons_self
      rcases List.mem_cons.mp hz with e | hz
      · subst e; split at h3 <;> split <;> omega
      · rcases List.mem_cons.mp hz with e | hz
        · subst e; split at h3 <;> split <;> omega
        · exact h2 z (List.mem_cons_of_mem _ hz)
theorem foldl_min : ∀ (r : List Int) (x : Int), (r.foldl (fun a b => if b < a then b else a) x) ∈ x :: r ∧ ∀ y ∈ x :: r, r.foldl (fun a b => if b < a then b else a) x ≤ y
  | [], x => by simp
  | y :: r, x => by
    rw [List.foldl_cons]
    obtain ⟨h1, h2⟩ := foldl_min r (if y < x then y else x)
    refine ⟨?_, fun z hz => ?_⟩
    · rcases List.mem_cons.mp h1 with h | h
      · rw [h]; split <;> simp
      · exact List.mem_cons_of_mem _ (List.mem_cons_of_mem _ h)
    · have h3 := h2 _ List.mem_cons_self
      rcases List.mem_cons.mp hz with e | hz
      · subst e; split at h3 <;> split <;> omega
      · rcases List.mem_cons.mp hz with e | hz
        · subst e; split at h3 <;> split <;> omega
        · exact h2 z (List.mem_cons_of_mem _ hz)
def dMax2 : List PyData → Option PyData
  | [.int i, .int j] => some (.int (if j > i then j else i))
  | _ => none
def dMin2 : List PyData → Option PyData
  | [.int i, .int j] => some (.int (if j < i then j else i))
  | _ => none
theorem ref_max2 (K : PySem.W.Frag) : RefA K (fun xs H Q => ∃ i j, xs = [.int i, .int j] ∧ Q (.int (if j > i then j else i)) H) dMax2 := by
  intro F H vs ds d Q s b e k
  unfold dMax2 at e
  split at e <;> cases e
  obtain ⟨v, w, rfl, r1, r2⟩ := b.two
  exact ⟨_, _, by rw [r1.int, r2.int], k _ F H (.refl s) (.int _)⟩
theorem ref_min2 (K : PySem.W.Frag) : RefA K (fun xs H Q => ∃ i j, xs = [.int i, .int j] ∧ Q (.int (if j < i then j else i)) H) dMin2 := by
  intro F H vs ds d Q s b e k
  unfold dMin2 at e
  split at e <;> cases e
  obtain ⟨v, w, rfl, r1, r2⟩ := b.two
  exact ⟨_, _, by rw [r1.int, r2.int], k _ F H (.refl s) (.int _)⟩
def dSum : List PyData → Option PyData
  | [.list ds] => (intsOf ds).map fun ns => .int ns.sum
  | _ => none
theorem ref_sum (K : PySem.W.Frag) : RefA K (rSum K) dSum := by
  intro F H vs ds d Q s b e k
  unfold dSum at e
  split at e
  · rename_i es
    cases q : intsOf es with
    | none => rw [q] at e; cases e
    | some ns =>
      rw [q] at e
      cases e
      have hq := intsOf_eq q
      subst hq
      obtain ⟨v, rfl, r⟩ := b.one
      obtain ⟨p, ys, rfl, q1, q2⟩ := r.list s
      have e2 := q2.inj_ints
      subst e2
      exact ⟨p, ns, rfl, .inl q1, k _ F H (.refl s) (.int _)⟩
  · cases e
def dMax : List PyData → Option PyData
  | [.list ds] => (intsOf ds).bind fun ns => (maxI ns).map PyData.int
  | _ => none
theorem cr_maxA (hc : X.calm = true) : CallR X (.builtin "max") (rMax X.K) := cr_max hc
theorem ref_max (K : PySem.W.Frag) : RefA K (rMax K) dMax := by
  intro F H vs ds d Q s b e k
  unfold dMax at e
  split at e
  · rename_i es
    cases q : intsOf es with
    | none => rw [q] at e; cases e
    | some ns =>
      rw [q] at e
      cases ns with
      | nil => cases e
      | cons x r =>
        cases e
        have hq := intsOf_eq q
        subst hq
        obtain ⟨v, rfl, rr⟩ := b.one
        obtain ⟨p, ys, rfl, q1, q2⟩ := rr.list s
        have e2 := q2.inj_ints
        subst e2
        refine ⟨p, x :: r, rfl, .inl q1, by simp, fun m hm hle => ?_⟩
        obtain ⟨h1, h2⟩ := foldl_max r x
        have e3 : m = r.foldl (fun a b => if a < b then b else a) x := Int.le_antisymm (h2 m hm) (hle _ h1)
        rw [e3]
        exact k _ F H (.refl s) (.int _)
  · cases e
/-! ### whole numbers, in place -/
def dAddI : PyData → PyData → Option PyData
  | .int i, .int j => some (.int (i + j))
  | _, _ => none
theorem ref_addI (K : PySem.W.Frag) : Ref2 K (rI0 fun i j => .int (i + j)) dAddI := by
  intro F H x y dx dy d Q s bx byy e k
  unfold dAddI at e
  split at e
  · cases e
    exact ⟨_, _, bx.int, byy.int, k _ F H (.refl s) (.int _)⟩
  · cases e
def dMulI : PyData → PyData → Option PyData
  | .int i, .int j => if (-(2 ^ 64) < j ∧ j < 2 ^ 64) ∨ (-(2 ^ 64) < i ∧ i < 2 ^ 64) then some (.int (i * j)) else none
  | _, _ => none
theorem ref_mulI (K : PySem.W.Frag) : Ref2 K (rI CMul fun i j => .int (i * j)) dMulI := by
  intro F H x y dx dy d Q s bx byy e k
  unfold dMulI at e
  split at e
  · split at e
    · cases e
      rename_i hh
      exact ⟨_, _, bx.int, byy.int, hh.symm, k _ F H (.refl s) (.int _)⟩
    · cases e
  · cases e
/-! ### slices by a step, of a text -/
def stepL {α : Type} (k : Nat) (l : List α) : List α := (List.range ((l.length + k - 1) / k)).filterMap fun j => l[k * j]?
def stepS (z : Str) (k : Int) : Str := ⟨(stepL k.toNat z.cps.toList).toArray⟩
theorem range_all {α : Type} : ∀ l : List α, (List.range l.length).filterMap (fun j => l[j]?) = l := by
  intro l
  induction l with
  | nil => rfl
  | cons x r ih =>
    rw [List.length_cons, List.range_succ_eq_map, List.filterMap_cons]
    simp only [List.getElem?_cons_zero, List.filterMap_map]
    congr 1
theorem stepL_one {α : Type} (l : List α) : stepL 1 l = l := by
  unfold stepL
  have e : (l.length + 1 - 1) / 1 = l.length := by rw [Nat.div_one]; omega
  rw [e]
  simp only [Nat.one_mul]
  exact range_all l
theorem stepL_le {α : Type} {k : Nat} (hk : 0 < k) (l : List α) : (stepL k l).length ≤ l.length := by
  unfold stepL
  refine Nat.le_trans (List.length_filterMap_le _ _) ?_
  rw [List.length_range]
  cases l with
  | nil => rw [Nat.div_eq_of_lt (by simp; omega)]; exact Nat.zero_le _
  | cons x r =>
    refine Nat.div_le_of_le_mul ?_
    have h : (x :: r).length * 1 ≤ (x :: r).length * k := Nat.mul_le_mul_left _ hk
    obtain ⟨k', rfl⟩ : ∃ k', k = k' + 1 := ⟨k - 1, by omega⟩
    have h2 : (r.length + 1) * (k' + 1) = (k' + 1) * (r.length + 1) := Nat.mul_comm _ _
    simp only [List.length_cons]
    have h3 : (k' + 1) * (r.length + 1) = k' * r.length + k' + r.length + 1 := by
      rw [Nat.add_mul, Nat.mul_add]; omega
    omega
theorem slice_step (k : Int) (hk : 0 < k) (n : Nat) : Builtin.Str.strSliceIndices none none k n = (List.range ((n + k.toNat - 1) / k.toNat)).map fun j => k.toNat * j := by
  unfold Builtin.Str.strSliceIndices PySem.sliceRange
  obtain ⟨m, rfl⟩ : ∃ m : Nat, k = (m : Int) := ⟨k.toNat, by omega⟩
  have hm : 0 < m := by omega
  have h1 : (m : Int) > 0 := by omega
  simp only [if_pos h1, Int.toNat_natCast]
  have hc : (if (0 : Int) < (n : Int) then ((n : Int) - 0 + (m : Int) - 1) / (m : Int) else 0).toNat = (n + m - 1) / m := by
    by_cases hn : 0 < n
    · rw [if_pos (by omega)]
      have : ((n : Int) - 0 + (m : Int) - 1) = ((n + m - 1 : Nat) : Int) := by omega
      rw [this, ← Int.natCast_ediv, Int.toNat_natCast]
    · have : n = 0 := by omega
      subst this
      rw [if_neg (by omega), Nat.div_eq_of_lt (by omega)]; rfl
  rw [hc]
  refine List.map_congr_left fun j _ => ?_
  have : (0 : Int) + (m : Int) * (j : Int) = ((m * j : Nat) : Int) := by rw [Int.natCast_mul]; omega
  rw [this, Int.toNat_natCast]
theorem stepS_eq (z : Str) (k : Int) (hk : 0 < k) : stepS z k = ⟨((Builtin.Str.strSliceIndices none none k z.length).filterMap (z.cps[·]?)).toArray⟩ := by
  rw [slice_step k hk, List.filterMap_map]
  unfold stepS stepL
  rw [← str_length]
  have e : (fun j => z.cps.toList[k.toNat * j]?) = ((fun x => z.cps[x]?) ∘ fun j => k.toNat * j) := by
    funext j
    simp [Array.getElem?_toList]
  rw [e]
theorem SOk.step {z : Str} (h : SOk z) {k : Int} (hk : 0 < k) : SOk (stepS z k) := by
  refine SOk.sub h ?_ fun c hc => ?_
  · exact Nat.le_trans (stepL_le (by omega) _) (by rw [← str_length]; exact h.len)
  · unfold stepL at hc
    obtain ⟨j, _, hj⟩ := List.mem_filterMap.mp hc
    exact List.mem_of_getElem? hj
def dStep : PyData → PyData → Option PyData
  | .str z, .int k => if 0 < k then some (.str (stepS z k)) else none
  | _, _ => none
def tStepS (te ti : TE) : TE := fun σ H Q => te σ H fun x H1 => ti σ H1 fun y H2 => ∃ z k, x = .str z ∧ y = .int k ∧ 0 < k ∧ z.length ≤ sizeLine ∧ Q (.str (stepS z k)) H2
open PyProof.Rows in
theorem pe_stepS {e ke : Expr} {te ti : TE} {p3 pos : Pos} (he : PE X e te) (hk : PE X ke ti)
    (hst : ∀ v a, ∃ ops, subscripted (.Slice none none (some ke) p3) false v (.ref a) = operate ops (getItem v (.ref a)) := by intro _ _; exact ⟨_, by with_unfolding_all rfl⟩) : PE X (.Subscript e (.Slice none none (some ke) p3) pos) (tStepS te ti) := by
  refine ⟨fun pins s σ H Q I h => ?_⟩
  refine PyProof.Rows.Subscript_ (thn (he.run pins s σ H _ I h) fun v s1 ⟨x, H1, I1, r1, q1⟩ => ?_)
  refine wpAny_Slice ?_
  rw [evalPart_none, evalPart_some]
  refine wpAny_pure (wpAny_pure (thn (hk.run pins s1 σ H1 _ I1 q1) fun vs s4 ⟨y, H2, I4, r2, z, k, ex, ey, hk0, hz, q⟩ => ?_))
  subst ex ey
  obtain ⟨t, rfl⟩ := r1
  obtain ⟨u, rfl⟩ := r2
  have I5 : Inv X pins σ H2 { s4 with heap := s4.heap.push { cls := .type "slice", data := .fields #[.none, .none, .int k u] } } := I4.kept (t' := s4.toks) fun b ob q => Heap.get?_push_of_some _ q
  show wpAny (model X.prog X.w) X.A (subscriptTail e (.Slice none none (some ke) p3) (.str z t) (.ref s4.heap.objs.size)) (EP X pins σ Q) X.xe { s4 with heap := s4.heap.push { cls := .type "slice", data := .fields #[.none, .none, .int k u] } }
  obtain ⟨ops, hst⟩ := hst (.str z t) s4.heap.objs.size
  refine tail_any (ops := ops) (T := "str") (typeIs_str _ _ _) F.slot_str_getitem.lookup ?_ hst
  refine wpAny_getItem_str_slice (l := none) (u := none) (st := some (k, u)) ⟨_, Heap.get?_push_size _ rfl, rfl, rfl⟩ (by show (k == 0) = false; rw [beq_eq_false_iff_ne]; omega) ?_
  have hl : (stepS z k).length ≤ sizeLine := by
    rw [str_length]
    unfold stepS
    simp only [List.toList_toArray]
    exact Nat.le_trans (stepL_le (by omega) _) (by rw [← str_length]; exact hz)
  show Made.post (if (k == 1 && (Builtin.Str.strSliceIndices none none k z.length).length == z.length) = true then Made.val (.str z t) else Made.str ⟨((Builtin.Str.strSliceIndices none none k z.length).filterMap (z.cps[·]?)).toArray⟩) (EP X pins σ Q) _
  by_cases c : (k == 1 && (Builtin.Str.strSliceIndices none none k z.length).length == z.length) = true
  · rw [if_pos c]
    have hk1 : k = 1 := by
      rw [Bool.and_eq_true] at c
      exact eq_of_beq c.1
    subst hk1
    have e1 : stepS z 1 = z := by
      unfold stepS
      rw [show (1 : Int).toNat = 1 from rfl, stepL_one]
    rw [e1] at q
    exact ⟨.str z, H2, I5, ⟨t, rfl⟩, q⟩
  · rw [if_neg c, ← stepS_eq z k hk0]
    exact ⟨hl, .str _, H2, I5.tok _, ⟨_, rfl⟩, q⟩
theorem de_step {p3 : Pos} (ha : DB X W a fa) (hb : DB X W b fb) (hst : ∀ v a, ∃ ops, subscripted (.Slice none none (some b) p3) false v (.ref a) = operate ops (getItem v (.ref a)) := by intro _ _; exact ⟨_, by with_unfolding_all rfl⟩) :
    DE X W (.Subscript a (.Slice none none (some b) p3) pos) (e2 dStep fa fb) :=
  PE.imp (pe_stepS ha hb hst) fun σ H Q h => by
    obtain ⟨ρ, F, G, o⟩ := h
    refine bin_b (k := fun a b => .of (dStep a b)) (O := fun F H r => OutE X.K X.mg W σ F H r Q ∧ Same F H) ⟨ρ, F, G, o, G.sub⟩ (fun F H F' H' c g o => ⟨OutE.ex g o.1, g.sub⟩) (fun F H c o => o.1) (fun F H o => o.1) fun F H F' H' a b x y o gr rx ry => ?_
    cases q : dStep a b with
    | none => rw [q] at o; exact o.1.elim
    | some d =>
      rw [q] at o
      unfold dStep at q
      split at q
      · split at q
        · cases q
          rename_i hk
          exact ⟨_, _, rx.str, ry.int, hk, rx.sok.len, o.1 _ F' H' gr (.str _ (rx.sok.step hk))⟩
        · cases q
      · cases q
end
end DL
namespace DL
open PySem PySem.Spec L2
section
variable {X : Cx} {W : WX} {F0 H0 : Hp} {st : Stmt} {rest body : List Stmt} {f g : DS} {a b c e : Expr} {fa fb fc fe fk : DEx} {pos : Pos} {es : List Expr} {fs : En → Rs (List PyData)}
/-! ### dicts of one's own -/
def keyD : PyData → Option Key
  | .int i => some (.inl i)
  | .str x => some (.inr x)
  | _ => none
theorem keyD_V {K : PySem.W.Frag} {F : Hp} {v : V} {d : PyData} {k : Key} (h : Rp K F v d) (e : keyD d = some k) : v = kV k := by
  cases h <;> simp [keyD] at e <;> subst e <;> rfl
def valD (kvs : List (Key × PyData)) (k : Key) : Option PyData := (kvs.find? fun kv => decide (kv.1 = k)).map (·.2)
def putD (kvs : List (Key × PyData)) (k : Key) (v : PyData) : List (Key × PyData) :=
  if (kvs.any fun kv => decide (kv.1 = k)) = true then kvs.map (fun kv => if kv.1 = k then (kv.1, v) else kv) else kvs ++ [(k, v)]
theorem kv_val {K : PySem.W.Frag} {F : Hp} {k : Key} : ∀ {us : List (Key × V)} {kvs : List (Key × PyData)}, KvOk K F us kvs →
    (valD kvs k = none → valV us k = none) ∧ ∀ d, valD kvs k = some d → ∃ v, valV us k = some v ∧ Rp K F v d
  | _, _, .nil => ⟨fun _ => rfl, fun d h => by cases h⟩
  | _, _, .cons (a := p) (b := q) h t => by
    have ih := kv_val (k := k) t
    obtain ⟨e, r⟩ := h
    unfold valD valV at ih ⊢
    rw [List.find?_cons, List.find?_cons, e]
    by_cases hk : q.1 = k
    · rw [decide_eq_true hk]
      exact ⟨fun z => (nomatch z), fun d z => ⟨p.2, rfl, by cases z; exact r⟩⟩
    · rw [decide_eq_false hk]
      exact ih
theorem kv_any {K : PySem.W.Frag} {F : Hp} {k : Key} : ∀ {us : List (Key × V)} {kvs : List (Key × PyData)}, KvOk K F us kvs → (us.any fun kv => decide (kv.1 = k)) = (kvs.any fun kv => decide (kv.1 = k))
  | _, _, .nil => rfl
  | _, _, .cons h t => by rw [List.any_cons, List.any_cons, h.1, kv_any t]
theorem kv_len {K : PySem.W.Frag} {F : Hp} : ∀ {us : List (Key × V)} {kvs : List (Key × PyData)}, KvOk K F us kvs → us.length = kvs.length
  | _, _, .nil => rfl
  | _, _, .cons h t => by simp [kv_len t]
theorem kv_snoc {K : PySem.W.Frag} {F : Hp} {k : Key} {v : V} {d : PyData} (r : Rp K F v d) : ∀ {us : List (Key × V)} {kvs : List (Key × PyData)}, KvOk K F us kvs → KvOk K F (us ++ [(k, v)]) (kvs ++ [(k, d)])
  | _, _, .nil => .cons ⟨rfl, r⟩ .nil
  | _, _, .cons h t => .cons h (kv_snoc r t)
theorem kv_map {K : PySem.W.Frag} {F : Hp} {k : Key} {v : V} {d : PyData} (r : Rp K F v d) : ∀ {us : List (Key × V)} {kvs : List (Key × PyData)}, KvOk K F us kvs →
    KvOk K F (us.map fun kv => if kv.1 = k then (kv.1, v) else kv) (kvs.map fun kv => if kv.1 = k then (kv.1, d) else kv)
  | _, _, .nil => .nil
  | _, _, .cons (a := p) (b := q) h t => by
    rw [List.map_cons, List.map_cons]
    refine .cons ?_ (kv_map r t)
    rw [h.1]
    split
    · exact ⟨rfl, r⟩
    · exact h
theorem kv_put {K : PySem.W.Frag} {F : Hp} {k : Key} {v : V} {d : PyData} (r : Rp K F v d) {us : List (Key × V)} {kvs : List (Key × PyData)} (h : KvOk K F us kvs) : KvOk K F (putK us k v) (putD kvs k d) := by
  unfold putK putD
  rw [kv_any h]
  split
  · exact kv_map r h
  · exact kv_snoc r h
def owndAt (ρ : En) (i : Nat) : Rs (List (Key × PyData)) := match ρ[i]? with
  | some (some (.ownd kvs)) => .ok kvs
  | _ => .bad
theorem owndAt_ok {ρ : En} {i : Nat} {ds : List (Key × PyData)} (h : owndAt ρ i = .ok ds) : ρ[i]? = some (some (.ownd ds)) := by
  unfold owndAt at h
  split at h
  · cases h; assumption
  · cases h
theorem owndAt_no_ex {ρ : En} {i : Nat} {c : Str} (h : owndAt ρ i = .ex c) : False := by
  unfold owndAt at h
  split at h <;> cases h
/-- x = {} -/
def sNewK (i : Nat) : DS := fun ρ => .nx (ρ.set i (some (.ownd [])))
theorem ds_newK {i : Nat} {x : Str} {pos' dpos : Pos} (hN : X.N.Nodup) (hi : X.N[i]? = some x := by rfl) (hx : Loc X.env.scope x := by first | exact Or.inl rfl | exact Or.inr rfl) (hs : swapsWith (.Dict [] [] dpos) (some (.Name x pos')) pos.line X.env = pure false := by rfl) (hf : X.fn x = true ∨ X.env.scope.names.lookup x = some .local := by first | exact .inl rfl | exact .inr rfl) :
    DSt X W F0 H0 (.Assign [.Name x pos'] (.Dict [] [] dpos) pos) (sNewK i) :=
  PS.imp (ps_set hN hi hx pe_dnewK hs hf) fun D σ H ⟨ρ, F, G, o⟩ p hp => by
    have G1 : GoodS X.K F0 H0 F (upd H p (.dK [])) σ ρ := G.grow (Grow.open G.gd.sub hp)
    exact o _ F _ (G1.putOwn (x := .ownd []) ⟨p, [], rfl, upd_same, G.gd.sub.free hp, .nil⟩ (G.gr.h.free hp) fun j y hj ej oy z => by
      obtain ⟨u, hu, _⟩ := G.gd.own_at (same_upd hp) ej oy z
      rw [hp] at hu; cases hu)
/-- d[k], there -/
def eGetK (i : Nat) (fk : DEx) : DEx := fun ρ => (owndAt ρ i).bind fun kvs => (fk ρ).bind fun k => match keyD k with
  | some k => .of (valD kvs k)
  | none => .bad
theorem de_getK {i : Nat} {x : Str} {p : Pos} {ke : Expr} (hu : X.A.units + 1 < cLine) (hk : DE X W ke fk) (hN : X.N[i]? = some x := by rfl) (hv : Vis X.env.scope x := by first | exact Or.inl rfl | exact Or.inr (Or.inl rfl) | exact Or.inr (Or.inr rfl)) (hd : (x == ("__debug__" : Str)) = false := by decide) (hcd : (x == ("__classdict__" : Str)) = false := by decide) (hs : NoSl ke := by intro _ _; rfl) :
    DE X W (.Subscript (.Name x p) ke pos) (eGetK i fk) :=
  PE.imp (pe_dget hu (pe_var hN hv hd hcd) hk hs) fun σ H Q ⟨ρ, F, G, o⟩ => by
    unfold eGetK at o
    cases q : owndAt ρ i with
    | bad => rw [q] at o; exact o.elim
    | ex c => exact (owndAt_no_ex q).elim
    | ok kvs =>
      rw [q] at o
      obtain ⟨v, h1, p, us, rfl, h2, h3, h4⟩ := G.at_ i _ (owndAt_ok q)
      refine ⟨.ref p, h1, ?_⟩
      refine exp_then G o fun F' H' k w G' o' r => ?_
      cases qk : keyD k with
      | none => rw [qk] at o'; exact o'.elim
      | some k' =>
        rw [qk] at o'
        obtain ⟨v2, h1', p2, us2, e2, h2', h3', h4'⟩ := G'.at_ i _ (owndAt_ok q)
        have ev : V.ref p = v2 := by rw [h1] at h1'; cases h1'; rfl
        subst ev
        cases e2
        obtain ⟨_, hv⟩ := kv_val (k := k') h4'
        cases qv : valD kvs k' with
        | none => simp only [qv] at o'; exact o'.elim
        | some d =>
          simp only [qv] at o'
          obtain ⟨u, e3, r3⟩ := hv d qv
          refine ⟨p, u, rfl, ?_, o'.self G'.sub r3⟩
          rw [keyD_V r qk, ← e3]
          exact DGet.k h2'
/-- k in d -/
def inK (i : Nat) (fk : DEx) : En → Rs Bool := fun ρ => (fk ρ).bind fun k => (owndAt ρ i).bind fun kvs => match keyD k with
  | some k => .ok (valD kvs k).isSome
  | none => .bad
def eInK (i : Nat) (fk : DEx) : DEx := fun ρ => (inK i fk ρ).bind fun b => .ok (.bool b)
def tInK (i : Nat) (fk : DEx) : En → Rs Bool := inK i fk
theorem dt_inK {i : Nat} {x : Str} {p : Pos} {ke : Expr} (hu : X.A.units + 1 < cLine) (hk : DE X W ke fk) (hN : X.N[i]? = some x := by rfl) (hv : Vis X.env.scope x := by first | exact Or.inl rfl | exact Or.inr (Or.inl rfl) | exact Or.inr (Or.inr rfl)) (hd : (x == ("__debug__" : Str)) = false := by decide) (hcd : (x == ("__classdict__" : Str)) = false := by decide)
    (hm : behindInMarks .In (.Name x p) = false := by rfl) : DT X W (.Compare ke [.In] [.Name x p] pos) (tInK i fk) :=
  PT.imp (pt_cmp (pc_din hu hk (pe_var hN hv hd hcd)) hm) fun σ H Q ⟨ρ, F, G, o⟩ => by
    unfold tInK inK at o
    refine ⟨ρ, F, G, ?_⟩
    cases qf : fk ρ with
    | bad => rw [qf] at o; exact o
    | ex c => rw [qf] at o; exact o
    | ok k =>
      rw [qf] at o
      intro w F' H' g r
      cases q : owndAt ρ i with
      | bad => simp only [Rs.bind, q] at o; exact o.elim
      | ex c => exact (owndAt_no_ex q).elim
      | ok kvs =>
        simp only [Rs.bind, q] at o
        have G' := G.grow g
        obtain ⟨v, h1, p, us, rfl, h2, h3, h4⟩ := G'.at_ i _ (owndAt_ok q)
        refine ⟨.ref p, h1, ?_⟩
        cases qk : keyD k with
        | none => simp only [qk] at o; exact o.elim
        | some k' =>
          simp only [qk] at o
          refine ⟨p, valV us k', rfl, ?_, ?_⟩
          · rw [keyD_V r qk]; exact DGet.k h2
          · obtain ⟨n1, n2⟩ := kv_val (k := k') h4
            have es : (valV us k').isSome = (valD kvs k').isSome := by
              cases qv : valD kvs k' with
              | none => rw [n1 qv]; rfl
              | some d => obtain ⟨u, e3, _⟩ := n2 d qv; rw [e3]; rfl
            rw [es]
            exact ⟨_, rfl, o F' H' g⟩
/-- d[k] = e -/
def sPutK (i : Nat) (fk fe : DEx) : DS := fun ρ => sBind (fe ρ) ρ fun d => sBind (owndAt ρ i) ρ fun kvs => sBind (fk ρ) ρ fun k => match keyD k with
  | some k => if kvs.length < sizeLine then .nx (ρ.set i (some (.ownd (putD kvs k d)))) else .bad
  | none => .bad
theorem ds_putK {i : Nat} {x : Str} {p p' : Pos} {ke : Expr} (hu : X.A.units + 1 < cLine) (hk : DE X W ke fk) (he : DE X W e fe) (hN : X.N[i]? = some x := by rfl) (hv : Vis X.env.scope x := by first | exact Or.inl rfl | exact Or.inr (Or.inl rfl) | exact Or.inr (Or.inr rfl)) (hd : (x == ("__debug__" : Str)) = false := by decide) (hcd : (x == ("__classdict__" : Str)) = false := by decide)
    (hs : swapsWith e (some (.Subscript (.Name x p) ke p')) pos.line X.env = pure false := by rfl) : DSt X W F0 H0 (.Assign [.Subscript (.Name x p) ke p'] e pos) (sPutK i fk fe) :=
  PS.imp (ps_dput hu (pe_var hN hv hd hcd) hk he hs) fun D σ H ⟨ρ, F, G, o⟩ => expS G o fun F' H' d w gr o' G' r => by
    cases q : owndAt ρ i with
    | bad => rw [q] at o'; exact o'.elim
    | ex c => exact (owndAt_no_ex q).elim
    | ok kvs =>
      rw [q] at o'
      have ei := owndAt_ok q
      obtain ⟨v, h1, p, us, rfl, h2, h3, h4⟩ := G'.gd.at_ i _ ei
      refine ⟨.ref p, h1, ?_⟩
      refine expS G' o' fun F2 H2 k w2 g2 o2 G2 r2 => ?_
      cases qk : keyD k with
      | none => simp only [qk] at o2; exact o2.elim
      | some k' =>
        simp only [qk] at o2
        by_cases hl : kvs.length < sizeLine
        · rw [if_pos hl] at o2
          have h2' := g2.h _ _ h2
          refine ⟨p, _, rfl, .inl ⟨us, k', h2', keyD_V r2 qk, by rw [kv_len h4]; exact hl, rfl⟩, ?_⟩
          exact o2 σ F2 _ (G2.upd ei rfl h1 rfl ⟨p, _, rfl, upd_same, g2.new p _ h2 h3, kv_put (r.mono g2.f) (KvOk.mono g2.f h4)⟩)
        · rw [if_neg hl] at o2; exact o2.elim
/-- d[k] += e, whole numbers -/
def sAugK (i : Nat) (fk fe : DEx) : DS := fun ρ => sBind (owndAt ρ i) ρ fun kvs => sBind (fk ρ) ρ fun k => match keyD k with
  | some k => match valD kvs k with
    | some (.int n) => sBind (fe ρ) ρ fun d => match d with
      | .int m => if kvs.length < sizeLine then .nx (ρ.set i (some (.ownd (putD kvs k (.int (n + m)))))) else .bad
      | _ => .bad
    | _ => .bad
  | none => .bad
theorem ds_augK {i : Nat} {x : Str} {p p' : Pos} {ke : Expr} (hu : X.A.units + 1 < cLine) (hk : DE X W ke fk) (he : DE X W e fe) (hN : X.N[i]? = some x := by rfl) (hv : Vis X.env.scope x := by first | exact Or.inl rfl | exact Or.inr (Or.inl rfl) | exact Or.inr (Or.inr rfl)) (hd : (x == ("__debug__" : Str)) = false := by decide) (hcd : (x == ("__classdict__" : Str)) = false := by decide)
    (ha : ∀ ov iv new, augStore ke ov iv new = (do holding [new, ov, iv] (setItem ov iv new); release [new, ov, iv] []; pure .next) := by intro _ _ _; rfl) : DSt X W F0 H0 (.AugAssign (.Subscript (.Name x p) ke p') .Add e pos) (sAugK i fk fe) :=
  PS.imp (ps_daug hu (pe_var hN hv hd hcd) hk he in_add ha) fun D σ H ⟨ρ, F, G, o⟩ => by
    unfold sAugK at o
    cases q : owndAt ρ i with
    | bad => rw [q] at o; exact o.elim
    | ex c => exact (owndAt_no_ex q).elim
    | ok kvs =>
      rw [q] at o
      have ei := owndAt_ok q
      obtain ⟨v, h1, p, us, rfl, h2, h3, h4⟩ := G.gd.at_ i _ ei
      refine ⟨.ref p, h1, ?_⟩
      refine expS G o fun F' H' k w gr o' G' r => ?_
      cases qk : keyD k with
      | none => simp only [qk] at o'; exact o'.elim
      | some k' =>
        simp only [qk] at o'
        cases qv : valD kvs k' with
        | none => simp only [qv] at o'; exact o'.elim
        | some dv =>
          have h2' := gr.h _ _ h2
          have h4' := KvOk.mono gr.f h4
          obtain ⟨u, e3, r3⟩ := (kv_val (k := k') h4').2 dv qv
          cases dv with
          | int n =>
            simp only [qv] at o'
            cases r3
            refine ⟨p, .int n, rfl, by rw [keyD_V r qk, ← e3]; exact DGet.k h2', ?_⟩
            refine expS G' o' fun F2 H2 d w2 g2 o2 G2 r2 => ?_
            cases d with
            | int m =>
              dsimp only at o2
              by_cases hl : kvs.length < sizeLine
              · rw [if_pos hl] at o2
                cases r2
                have h2'' := g2.h _ _ h2'
                refine ⟨n, m, rfl, rfl, _, .inl ⟨us, k', h2'', keyD_V r qk, by rw [kv_len h4]; exact hl, rfl⟩, ?_⟩
                exact o2 σ F2 _ (G2.upd ei rfl h1 rfl ⟨p, _, rfl, upd_same, g2.new p _ h2' (gr.new p _ h2 h3), kv_put (.int _) (KvOk.mono g2.f h4')⟩)
              · rw [if_neg hl] at o2; exact o2.elim
            | _ => exact o2.elim
          | _ => simp only [qv] at o'; exact o'.elim
/-! ### a dict displayed: texts and whole numbers, written -/
def mergeD (kvs more : List (Key × PyData)) : List (Key × PyData) := more.foldl (fun acc kv => putD acc kv.1 kv.2) kvs
theorem kv_merge {K : PySem.W.Frag} {F : Hp} : ∀ {more : List (Key × V)} {mored : List (Key × PyData)} {us : List (Key × V)} {kvs : List (Key × PyData)}, KvOk K F more mored → KvOk K F us kvs → KvOk K F (mergeK us more) (mergeD kvs mored)
  | _, _, _, _, .nil, q => q
  | _, _, us, kvs, .cons (a := p) (b := r) h t, q => by
    show KvOk K F (mergeK (putK us p.1 p.2) _) (mergeD (putD kvs r.1 r.2) _)
    refine kv_merge t ?_
    rw [h.1]
    exact kv_put h.2 q
def cKv (cs : List (Str × Int)) : List (Key × PyData) := cs.map fun c => (.inr c.1, .int c.2)
def cKvV (cs : List (Str × Int)) : List (Key × V) := cs.map fun c => (.inr c.1, .int c.2)
def sDisp (i : Nat) (cs : List (Str × Int)) : DS := fun ρ => .nx (ρ.set i (some (.ownd (mergeD [] (cKv cs)))))
theorem cpairs (cs : List (Str × Int)) : ∀ (σ : L2.St) (H : Hp) (Q : List (V × V) → Hp → Prop), Q ((cKvV cs).map fun kv => (kV kv.1, kv.2)) H → tPairs (cs.map fun c => (tC (.str c.1), tC (.int c.2))) σ H Q := by
  induction cs with
  | nil => intro σ H Q h; exact h
  | cons c r ih => intro σ H Q h; exact ih σ H (fun ps H3 => Q ((V.str c.1, V.int c.2) :: ps) H3) h
theorem cKv_ok {K : PySem.W.Frag} {F : Hp} : ∀ cs : List (Str × Int), KvOk K F (cKvV cs) (cKv cs)
  | [] => .nil
  | c :: r => .cons ⟨rfl, .int _⟩ (cKv_ok r)
theorem ds_disp {i : Nat} {x : Str} {pos' dpos : Pos} {keys : List (Option Expr)} {values : List Expr} {cs : List (Str × Int)} (hN : X.N.Nodup) (hp : PPs X dpos keys values (cs.map fun c => (tC (.str c.1), tC (.int c.2)))) (h15 : cs.length ≤ 15 := by decide) (hall : keys.all (·.isSome) = true := by rfl) (hl : keys.length = values.length := by rfl) (h0 : keys ≠ [] := by intro z; cases z) (hk : keys.length ≤ 15 := by decide)
    (hi : X.N[i]? = some x := by rfl) (hx : Loc X.env.scope x := by first | exact Or.inl rfl | exact Or.inr rfl) (hs : swapsWith (.Dict keys values dpos) (some (.Name x pos')) pos.line X.env = pure false := by rfl) (hf : X.fn x = true ∨ X.env.scope.names.lookup x = some .local := by first | exact .inl rfl | exact .inr rfl) :
    DSt X W F0 H0 (.Assign [.Name x pos'] (.Dict keys values dpos) pos) (sDisp i cs) :=
  PS.imp (ps_set hN hi hx (pe_disp hp hall hl h0 hk) hs hf) fun D σ H ⟨ρ, F, G, o⟩ p hp => by
    refine cpairs cs σ _ _ ⟨upd_same, cKvV cs, rfl, by unfold cKvV; rw [List.length_map]; exact h15, ?_⟩
    rw [upd_upd]
    have G1 : GoodS X.K F0 H0 F (upd H p (.dK (mergeK [] (cKvV cs)))) σ ρ := G.grow (Grow.open G.gd.sub hp)
    exact o _ F _ (G1.putOwn (x := .ownd (mergeD [] (cKv cs))) ⟨p, _, rfl, upd_same, G.gd.sub.free hp, kv_merge (cKv_ok cs) .nil⟩ (G.gr.h.free hp) fun j y hj ej oy z => by
      obtain ⟨u, hu, _⟩ := G.gd.own_at (same_upd hp) ej oy z
      rw [hp] at hu; cases hu)
/-! ### new lists by + and * -/
def nCat (fa fb : DEx) : En → Rs (List PyData) := fun ρ => (fa ρ).bind fun a => (fb ρ).bind fun b => match a, b with
  | .list x, .list y => if x.length + y.length ≤ sizeLine then .ok (x ++ y) else .bad
  | _, _ => .bad
theorem dn_cat (ha : DB X W a fa) (hb : DB X W b fb) : DN X W (.BinOp a .Add b pos) (nCat fa fb) :=
  PE.imp (pe_op op_catR ha hb) fun σ H Q h => by
    obtain ⟨ρ, F, G, o⟩ := h
    refine bin_b (k := fun a b => match a, b with
      | .list x, .list y => if x.length + y.length ≤ sizeLine then .ok (x ++ y) else .bad
      | _, _ => .bad) (O := fun F H r => OutN X.K X.mg W σ F H r Q ∧ Same F H) ⟨ρ, F, G, o, G.sub⟩ (fun F H F' H' c g o => ⟨fun C H2 s m => o.1 C H2 (g.h.trans s) m, g.sub⟩) (fun F H c o => o.1) (fun F H o => o.1) fun F H F' H' a b x y o gr rx ry => ?_
    split at o
    · split at o
      · rename_i x1 y1 hl
        obtain ⟨p, xs, rfl, r1, l1, t1⟩ := bp_list_rd gr.sub rx
        obtain ⟨q, ys, rfl, r2, l2, t2⟩ := bp_list_rd gr.sub ry
        refine ⟨p, q, xs, ys, rfl, rfl, r1, r2, by omega, fun l hl => ?_⟩
        exact o.1 l _ F' _ (gr.trans (Grow.open gr.sub hl)) (gr.h.free hl) (gr.sub.free hl) upd_same (t1.append t2)
      · exact o.1.elim
    · exact o.1.elim
def nRep (fa fb : DEx) : En → Rs (List PyData) := fun ρ => (fa ρ).bind fun a => (fb ρ).bind fun b => match a, b with
  | .list x, .int n => if -(2 ^ 63) ≤ n ∧ n < 2 ^ 63 ∧ x.length * n.toNat ≤ sizeLine then .ok (List.replicate n.toNat x).flatten else .bad
  | _, _ => .bad
theorem dn_rep (ha : DB X W a fa) (hb : DB X W b fb) : DN X W (.BinOp a .Mult b pos) (nRep fa fb) :=
  PE.imp (pe_op op_repR ha hb) fun σ H Q h => by
    obtain ⟨ρ, F, G, o⟩ := h
    refine bin_b (k := fun a b => match a, b with
      | .list x, .int n => if -(2 ^ 63) ≤ n ∧ n < 2 ^ 63 ∧ x.length * n.toNat ≤ sizeLine then .ok (List.replicate n.toNat x).flatten else .bad
      | _, _ => .bad) (O := fun F H r => OutN X.K X.mg W σ F H r Q ∧ Same F H) ⟨ρ, F, G, o, G.sub⟩ (fun F H F' H' c g o => ⟨fun C H2 s m => o.1 C H2 (g.h.trans s) m, g.sub⟩) (fun F H c o => o.1) (fun F H o => o.1) fun F H F' H' a b x y o gr rx ry => ?_
    split at o
    · split at o
      · rename_i x1 y1 hh
        obtain ⟨p, xs, rfl, r1, l1, t1⟩ := bp_list_rd gr.sub rx
        refine ⟨p, _, xs, rfl, ry.int, r1, hh.1, hh.2.1, by rw [l1]; exact hh.2.2, fun l hl => ?_⟩
        exact o.1 l _ F' _ (gr.trans (Grow.open gr.sub hl)) (gr.h.free hl) (gr.sub.free hl) upd_same (t1.rep _)
      · exact o.1.elim
    · exact o.1.elim
/-! ### list[::-1] -/
def nRev (fa : DEx) : En → Rs (List PyData) := fun ρ => (fa ρ).bind fun a => match a with
  | .list x => .ok x.reverse
  | _ => .bad
theorem dn_rev {k : Nat} {p1 p2 p3 : Pos} (ha : DB X W a fa) : DN X W (.Subscript a (.Slice none none (some (.UnaryOp .USub (.Constant (.int 1) k p1) p2)) p3) pos) (nRev fa) :=
  PE.imp (pe_revL ha) fun σ H Q ⟨ρ, F, G, o⟩ => by
    refine ⟨ρ, F, G, ?_⟩
    unfold nRev at o
    cases q : fa ρ with
    | bad => rw [q] at o; exact o
    | ex c => rw [q] at o; exact o
    | ok d =>
      rw [q] at o
      intro v F1 H1 g1 r1
      cases d with
      | list ds =>
        obtain ⟨p, xs, rfl, q1, q2⟩ := r1.list g1.sub
        refine ⟨p, xs, rfl, .inl q1, fun l hl => ?_⟩
        exact o l _ F1 _ (g1.trans (Grow.open g1.sub hl)) (g1.h.free hl) (g1.sub.free hl) upd_same q2.reverse
      | _ => exact o.elim
/-! ### range(a, b, c) -/
def rangeC (lo c : Int) (n : Nat) : List PyData := (List.range n).map fun (i : Nat) => .int (lo + (i : Nat) * c)
def rng3 : List PyData → Rs (List PyData)
  | [.int i, .int j, .int c] => if c ≠ 0 ∧ c.natAbs < 1073741824 ∧ Builtin.Range.small i j c = true ∧ 0 ≤ Builtin.Range.rangeSize i j c then .ok (rangeC i c (Builtin.Range.rangeSize i j c).toNat) else .bad
  | _ => .bad
def iR3 (fs : En → Rs (List PyData)) : En → Rs (List PyData) := fun ρ => (fs ρ).bind rng3
theorem IsWalk.rangeC {K : PySem.W.Frag} {F : Hp} {lo c : Int} {n : Nat} : IsWalk K (Itc lo c n) F (rangeC lo c n) := by
  have hl : (DL.rangeC lo c n).length = n := by simp [DL.rangeC]
  refine ⟨fun _ => True, _, by rw [hl]; exact walk_rangeC, fun _ _ => trivial, fun i F2 H2 x H' hi s1 s2 y => ?_⟩
  obtain ⟨rfl, rfl⟩ := y
  rw [hl] at hi
  refine ⟨F2, .int (lo + (i : Nat) * c), ?_, .refl s2, .int _⟩
  unfold DL.rangeC
  rw [List.getElem?_map, List.getElem?_range hi]; rfl
theorem BpAll.three {K : PySem.W.Frag} {F H : Hp} {vs : List V} {d e g : D} (h : BpAll K F H vs [d, e, g]) : ∃ v w u, vs = [v, w, u] ∧ Bp K F H v d ∧ Bp K F H w e ∧ Bp K F H u g := by
  cases h with
  | cons a h => cases h with
    | cons b h => cases h with
      | cons c h => cases h; exact ⟨_, _, _, rfl, a, b, c⟩
theorem di_range3 {tg a b c : Expr} {fs : En → Rs (List PyData)} {p : Pos} (hm : X.mg "range" = none) (ha : DAB X W [a, b, c] fs) (hg : Gl X "range" := by rfl) (hs : starEach [a, b, c] X.env = (false, eval a X.env) :: starEach [b, c] X.env := by rfl) (hpl : (backTo pos (starEach [b, c] X.env)).any (·.1) = false := by rfl) : DI X W tg (.Call (.Name "range" p) [a, b, c] [] pos) (iR3 fs) :=
  PI.imp (pi_range3 hg hm ha hs hpl) fun σ H R ⟨ρ, F, G, o⟩ => argsb_then (O := fun F H r => OutI X.K X.mg W σ F H r R) G o (fun _ _ _ o => o) (fun _ _ o => o) fun F' H' ds vs gr G' o' b => by
    unfold rng3 at o'
    split at o'
    · split at o'
      · rename_i hh
        obtain ⟨v, w, u, rfl, r1, r2, r3⟩ := b.three
        refine ⟨_, _, _, _, by rw [r1.int, r2.int, r3.int], ⟨hh.1, hh.2.1, hh.2.2.1, ?_⟩, o' _ F' H' gr IsWalk.rangeC⟩
        rw [Int.toNat_of_nonneg hh.2.2.2]
      · exact o'.elim
    · exact o'.elim
/-! ### list(range(n)) -/
theorem cr_range1 : CallR X (.type "range") (fun vs H Q => ∃ j, vs = [V.int j] ∧ ∀ p, H p = none → Q (.ref p) (upd H p (.rng 0 j))) := by
  intro pins s σ H vs us Q I r h
  obtain ⟨j, rfl, q⟩ := h
  obtain ⟨u1, rfl, ri⟩ := vals1 r
  obtain ⟨t, rfl⟩ := ri
  refine call_range_1 ⟨.ref s.heap.objs.size, upd H s.heap.objs.size (.rng 0 j), I.laid (t' := s.toks + 1 + 1) (fun b o e => Heap.get?_push_of_some _ e) (Nat.le_refl _) ?_, rfl, q _ (I.hok.fresh (Nat.le_refl _))⟩
  exact ⟨s.toks, t, s.toks + 1, Heap.get?_push_size _ rfl⟩
def rngV (lo : Int) (n : Nat) : List V := (List.range n).map fun (i : Nat) => .int (lo + (i : Nat))
theorem vals_rng (lo : Int) : ∀ (n : Nat) (acc : List Value) (f : Nat → Nat), acc.length = n → (∀ i v, acc[i]? = some v → ∃ t, v = Value.int (lo + ((f i : Nat) : Int)) t) → Vals ((List.range n).map fun (i : Nat) => V.int (lo + ((f i : Nat) : Int))) acc
  | 0, acc, f, hl, h => by
    cases acc with
    | nil => exact .nil
    | cons a b => simp at hl
  | n + 1, acc, f, hl, h => by
    cases acc with
    | nil => simp at hl
    | cons a b =>
      obtain ⟨t, rfl⟩ := h 0 a rfl
      rw [List.range_succ_eq_map, List.map_cons, List.map_map]
      exact .cons ⟨t, rfl⟩ (vals_rng lo n b (fun i => f (i + 1)) (by simpa using hl) (fun i v e => h (i + 1) v (by simpa using e)))
theorem cr_list_rng (hc : X.calm = true) : CallR X (.type "list") (fun xs H Q => ∃ p lo hi, xs = [.ref p] ∧ H p = some (.rng lo hi) ∧ (-(2 ^ 62) ≤ lo ∧ lo < 2 ^ 62 ∧ -(2 ^ 62) ≤ hi ∧ hi < 2 ^ 62) ∧ (hi - lo).toNat ≤ sizeLine ∧ ∀ l, H l = none → Q (.ref l) (upd H l (.lst (rngV lo (hi - lo).toNat)))) := by
  intro pins s σ H xs us Q I r h
  obtain ⟨p, lo, hi, rfl, hp, ⟨b1, b2, b3, b4⟩, hz, q⟩ := h
  obtain ⟨u, rfl, rx⟩ := vals1 r
  cases rx
  obtain ⟨t1, t2, t3, ho⟩ := I.hok p _ hp
  refine call_list_range (I.ok.hd hc) ho (small_one b1 b2 b3 b4) (PyProof.Rows.rangeSize_nat lo hi) (by rw [sizeLine_eq] at hz; omega) fun h' tk acc c kp e ia => ?_
  refine ⟨.ref s.heap.objs.size, _, I.laid (t' := tk) kp (Nat.le_refl _) (show ObjOk X.prog X.w _ h' _ (.lst (rngV lo (hi - lo).toNat)) from ⟨by unfold rngV; rw [List.length_map, List.length_range]; exact hz, acc.toList, c, ?_, by simpa using e⟩), rfl, q _ (I.hok.fresh (Nat.le_refl _))⟩
  refine vals_rng lo _ _ (fun i => i) (by simpa using ia.1) fun i v e => ?_
  obtain ⟨t, e2⟩ := ia.2 i v (by simpa using e)
  exact ⟨t, by rw [e2, Int.mul_one]⟩
def nLR (fs : En → Rs (List PyData)) : En → Rs (List PyData) := fun ρ => (fs ρ).bind fun ds => match ds with
  | [.int j] => if -(2 ^ 62) ≤ j ∧ j < 2 ^ 62 ∧ j.toNat ≤ sizeLine then .ok (rangeD 0 j.toNat) else .bad
  | _ => .bad
theorem rp_rng {K : PySem.W.Frag} {F : Hp} (lo : Int) (n : Nat) : RpAll K F (rngV lo n) (rangeD lo n) := by
  unfold rngV rangeD
  induction (List.range n) with
  | nil => exact .nil
  | cons a b ih => exact .cons (.int _) ih
theorem dn_lr {p q pos2 : Pos} (hc : X.calm = true) (hml : X.mg "list" = none) (hm : X.mg "range" = none) (ha : DAB X W [e] fs) (hg : Gl X "range" := by rfl) (hgl : Gl X "list" := by rfl)
    (hs : starEach [e] X.env = (false, eval e X.env) :: starEach [] X.env := by rfl) (hpl : (backTo pos2 (starEach [] X.env)).any (·.1) = false := by rfl)
    (hs2 : starEach [.Call (.Name "range" q) [e] [] pos2] X.env = (false, eval (.Call (.Name "range" q) [e] [] pos2) X.env) :: starEach [] X.env := by rfl) (hpl2 : (backTo pos (starEach [] X.env)).any (·.1) = false := by rfl) :
    DN X W (.Call (.Name "list" p) [.Call (.Name "range" q) [e] [] pos2] [] pos) (nLR fs) :=
  PE.imp (pe_callTy (cr_list_rng hc) hgl hml (by rfl) (pa_cons (pe_callTy cr_range1 hg hm (by rfl) ha (by decide) (by decide) hs hpl) pa_nil hs2) (by decide) (by decide) hs2 hpl2) fun σ H Q ⟨ρ, F, G, o⟩ => argsb_then (O := fun F H r => OutN X.K X.mg W σ F H r Q) G o (fun _ _ _ o => o) (fun _ _ o => o) fun F' H' ds vs gr G' o' b => by
    split at o'
    · rename_i j
      split at o'
      · rename_i hh
        obtain ⟨v, rfl, r⟩ := b.one
        refine ⟨_, by rw [r.int], fun p hp => ⟨p, _, _, rfl, upd_same, ⟨by decide, by decide, hh.1, hh.2.1⟩, by simpa using hh.2.2, fun l hl => ?_⟩⟩
        have g1 : Grow F' H' F' (upd H' p (.rng 0 j)) := Grow.open gr.sub hp
        exact o' l _ F' _ (gr.trans (g1.trans (Grow.open g1.sub hl))) ((gr.trans g1).h.free hl) (g1.sub.free hl) upd_same (by rw [Int.sub_zero]; exact rp_rng _ _)
      · exact o'.elim
    · exact o'.elim
end
end DL
namespace DL
open PySem PySem.Spec L2
section
variable {X : Cx} {W : WX} {F0 H0 : Hp} {st : Stmt} {rest body : List Stmt} {f g : DS} {a b c e : Expr} {fa fb fc fe fk : DEx} {pos : Pos} {es : List Expr} {fs : En → Rs (List PyData)}
/-! ### len(d), sorted(d) -/
def eLenK (i : Nat) : DEx := fun ρ => (owndAt ρ i).bind fun kvs => .ok (.int kvs.length)
theorem de_lenK {i : Nat} {x : Str} {p p2 : Pos} (hm : X.mg "len" = none) (hg : Gl X "len" := by rfl) (hN : X.N[i]? = some x := by rfl) (hv : Vis X.env.scope x := by first | exact Or.inl rfl | exact Or.inr (Or.inl rfl) | exact Or.inr (Or.inr rfl)) (hd : (x == ("__debug__" : Str)) = false := by decide) (hcd : (x == ("__classdict__" : Str)) = false := by decide)
    (he : starEach [.Name x p2] X.env = (false, eval (.Name x p2) X.env) :: starEach [] X.env := by rfl) (hpl : (backTo pos (starEach [] X.env)).any (·.1) = false := by rfl) :
    DE X W (.Call (.Name "len" p) [.Name x p2] [] pos) (eLenK i) :=
  PE.imp (pe_callB call_lenD hg hm (by rfl) (pa_cons (pe_var hN hv hd hcd) pa_nil he) (by decide) (by decide) he hpl) fun σ H Q ⟨ρ, F, G, o⟩ => by
    unfold eLenK at o
    cases q : owndAt ρ i with
    | bad => rw [q] at o; exact o.elim
    | ex c => exact (owndAt_no_ex q).elim
    | ok kvs =>
      rw [q] at o
      obtain ⟨v, h1, p, us, rfl, h2, h3, h4⟩ := G.at_ i _ (owndAt_ok q)
      refine ⟨.ref p, h1, p, us, rfl, h2, ?_⟩
      rw [kv_len h4]
      exact o.self G.sub (.int _)
def sokB (x : Str) : Bool := decide (x.length ≤ sizeLine) && PyData.strOk x
def keysS : List (Key × PyData) → Option (List Str)
  | [] => some []
  | (.inr x, _) :: r => if sokB x then (keysS r).map (x :: ·) else none
  | (.inl _, _) :: _ => none
theorem keysS_spec {K : PySem.W.Frag} {F : Hp} : ∀ {us : List (Key × V)} {kvs : List (Key × PyData)} {ks : List Str}, KvOk K F us kvs → keysS kvs = some ks → us.map (·.1) = ks.map Sum.inr ∧ ∀ x ∈ ks, SOk x
  | _, _, ks, .nil, e => by
    cases e
    exact ⟨rfl, fun x hx => nomatch hx⟩
  | _, _, ks, .cons (a := p) (b := q) h t, e => by
    obtain ⟨k, d⟩ := q
    cases k with
    | inl n => cases e
    | inr x =>
      unfold keysS at e
      split at e
      · rename_i hx
        cases qr : keysS _ with
        | none => rw [qr] at e; cases e
        | some ks' =>
          rw [qr] at e
          cases e
          obtain ⟨i1, i2⟩ := keysS_spec t qr
          refine ⟨by rw [List.map_cons, List.map_cons, i1, h.1], fun y hy => ?_⟩
          rcases List.mem_cons.mp hy with rfl | hy
          · exact SOk.dec hx
          · exact i2 y hy
      · cases e
def nSortK (i : Nat) : En → Rs (List PyData) := fun ρ => (owndAt ρ i).bind fun kvs => match keysS kvs with
  | some ks => if ks.length < 64 then .ok ((sortS ks).map PyData.str) else .bad
  | none => .bad
theorem dn_sortK {i : Nat} {x : Str} {p p2 : Pos} (hc : X.calm = true) (hm : X.mg "sorted" = none) (hg : Gl X "sorted" := by rfl) (hN : X.N[i]? = some x := by rfl) (hv : Vis X.env.scope x := by first | exact Or.inl rfl | exact Or.inr (Or.inl rfl) | exact Or.inr (Or.inr rfl)) (hd : (x == ("__debug__" : Str)) = false := by decide) (hcd : (x == ("__classdict__" : Str)) = false := by decide)
    (he : starEach [.Name x p2] X.env = (false, eval (.Name x p2) X.env) :: starEach [] X.env := by rfl) (hpl : (backTo pos (starEach [] X.env)).any (·.1) = false := by rfl) :
    DN X W (.Call (.Name "sorted" p) [.Name x p2] [] pos) (nSortK i) :=
  PE.imp (pe_callB (call_sortedD hc) hg hm (by rfl) (pa_cons (pe_var hN hv hd hcd) pa_nil he) (by decide) (by decide) he hpl) fun σ H Q ⟨ρ, F, G, o⟩ => by
    unfold nSortK at o
    cases q : owndAt ρ i with
    | bad => rw [q] at o; exact o.elim
    | ex c => exact (owndAt_no_ex q).elim
    | ok kvs =>
      rw [q] at o
      obtain ⟨v, h1, p, us, rfl, h2, h3, h4⟩ := G.at_ i _ (owndAt_ok q)
      cases qk : keysS kvs with
      | none => simp only [Rs.bind, qk] at o; exact o.elim
      | some ks =>
        simp only [Rs.bind, qk] at o
        obtain ⟨k1, k2⟩ := keysS_spec h4 qk
        split at o
        · rename_i h64
          refine ⟨.ref p, h1, p, us, ks, rfl, .inl h2, k1, h64, fun ys l hp hs hl => ?_⟩
          have e3 : ys = sortS ks := by
            refine sortS_unique hp ?_
            cases ys with
            | nil => exact .nil
            | cons z r => exact rising_pw hs
          subst e3
          exact o l _ F _ (Grow.open G.sub hl) hl (G.sub.free hl) upd_same (RpAll.strs _ fun x hx => k2 x (hp.mem_iff.mp hx))
        · exact o.elim
/-! ### int(n), int(flag) -/
def dInt1 : List PyData → Option PyData
  | [.int i] => some (.int i)
  | [.bool k] => some (.int (if k then 1 else 0))
  | _ => none
theorem ref_int1 (K : PySem.W.Frag) : RefA K (fun xs H Q => (∃ i, xs = [.int i] ∧ Q (.int i) H) ∨ ∃ k, xs = [.bl k] ∧ Q (.int (if k then 1 else 0)) H) dInt1 := by
  intro F H vs ds d Q s b e k
  unfold dInt1 at e
  split at e <;> cases e
  · obtain ⟨v, rfl, r⟩ := b.one
    exact .inl ⟨_, by rw [r.int], k _ F H (.refl s) (.int _)⟩
  · obtain ⟨v, rfl, r⟩ := b.one
    refine .inr ⟨_, ?_, k _ F H (.refl s) (.int _)⟩
    rw [(r.rp fun _ => by simp).inj_bool]
/-! ### bool(a list) -/
def dBoolL : List PyData → Option PyData
  | [.list ds] => some (.bool (!ds.isEmpty))
  | _ => none
theorem ref_boolL (K : PySem.W.Frag) : RefA K (fun xs H Q => ∃ (a : Addr) (zs : List V), xs = [.ref a] ∧ SqL K H a zs ∧ Q (.bl (!zs.isEmpty)) H) dBoolL := by
  intro F H vs ds d Q s b e k
  unfold dBoolL at e
  split at e <;> cases e
  obtain ⟨v, rfl, r⟩ := b.one
  obtain ⟨p, xs, rfl, q1, q2⟩ := r.list s
  refine ⟨p, xs, rfl, .inl q1, ?_⟩
  cases q2 with
  | nil => exact k _ F H (.refl s) (.bl _)
  | cons _ _ => exact k _ F H (.refl s) (.bl _)
/-! ### list(range(a, b)) -/
def nLR2 (fs : En → Rs (List PyData)) : En → Rs (List PyData) := fun ρ => (fs ρ).bind fun ds => match ds with
  | [.int i, .int j] => if (-(2 ^ 62) ≤ i ∧ i < 2 ^ 62 ∧ -(2 ^ 62) ≤ j ∧ j < 2 ^ 62) ∧ (j - i).toNat ≤ sizeLine then .ok (rangeD i (j - i).toNat) else .bad
  | _ => .bad
theorem dn_lr2 {e2 : Expr} {p q pos2 : Pos} (hc : X.calm = true) (hml : X.mg "list" = none) (hm : X.mg "range" = none) (ha : DAB X W [e, e2] fs) (hg : Gl X "range" := by rfl) (hgl : Gl X "list" := by rfl)
    (hs : starEach [e, e2] X.env = (false, eval e X.env) :: starEach [e2] X.env := by rfl) (hpl : (backTo pos2 (starEach [e2] X.env)).any (·.1) = false := by rfl)
    (hs2 : starEach [.Call (.Name "range" q) [e, e2] [] pos2] X.env = (false, eval (.Call (.Name "range" q) [e, e2] [] pos2) X.env) :: starEach [] X.env := by rfl) (hpl2 : (backTo pos (starEach [] X.env)).any (·.1) = false := by rfl) :
    DN X W (.Call (.Name "list" p) [.Call (.Name "range" q) [e, e2] [] pos2] [] pos) (nLR2 fs) :=
  PE.imp (pe_callTy (cr_list_rng hc) hgl hml (by rfl) (pa_cons (pe_callTy cr_range2 hg hm (by rfl) ha (by decide) (by decide) hs hpl) pa_nil hs2) (by decide) (by decide) hs2 hpl2) fun σ H Q ⟨ρ, F, G, o⟩ => argsb_then (O := fun F H r => OutN X.K X.mg W σ F H r Q) G o (fun _ _ _ o => o) (fun _ _ o => o) fun F' H' ds vs gr G' o' b => by
    split at o'
    · rename_i i j
      split at o'
      · rename_i hh
        obtain ⟨v, w, rfl, r, r2⟩ := b.two
        refine ⟨_, _, by rw [r.int, r2.int], fun p hp => ⟨p, _, _, rfl, upd_same, hh.1, hh.2, fun l hl => ?_⟩⟩
        have g1 : Grow F' H' F' (upd H' p (.rng i j)) := Grow.open gr.sub hp
        exact o' l _ F' _ (gr.trans (g1.trans (Grow.open g1.sub hl))) ((gr.trans g1).h.free hl) (g1.sub.free hl) upd_same (rp_rng _ _)
      · exact o'.elim
    · exact o'.elim
end
end DL
/-! zip of lists, tuples and texts in any mix -/
namespace DL
open PySem PySem.Spec PyProof.Rows L2
inductive SK where
  | txt (x : Str)
  | lst (a : Addr)
  | tup (a : Addr)
def SK.it : SK → Addr → Nat → Heap → Prop
  | .txt x, I, i, h => ∃ t, h.IsStrIter I (strIterType x) x t i
  | .lst a, I, i, h => h.IsListIter I a i
  | .tup a, I, i, h => h.IsTupleIter I a i
def SK.ad : SK → List Addr
  | .txt _ => []
  | .lst a => [a]
  | .tup a => [a]
def SK.v : SK → V
  | .txt x => .str x
  | .lst a => .ref a
  | .tup a => .ref a
def SrcK (K : PySem.W.Frag) (H : Hp) : SK → List V → Prop
  | .txt x, xs => xs = x.cps.toList.map fun c => V.str ⟨#[c]⟩
  | .lst a, xs => SqL K H a xs
  | .tup a, xs => SqT K H a xs
theorem SK.it_at {k : SK} {I : Addr} {i : Nat} {h h' : Heap} (st : k.it I i h) (q : ∀ o, h.get? I = some o → h'.get? I = some o) : k.it I i h' := by
  cases k with
  | txt x =>
    obtain ⟨t, o, ho, r⟩ := st
    exact ⟨t, o, q o ho, r⟩
  | lst a => exact Heap.IsListIter.at st q
  | tup a => exact Heap.IsTupleIter.at st q
theorem SK.it_obj {k : SK} {I : Addr} {i : Nat} {h : Heap} (st : k.it I i h) : ∃ o, h.get? I = some o ∧ ∀ v, o.data ≠ .cell v := by
  cases k with
  | txt x =>
    obtain ⟨t, o, ho, _, d⟩ := st
    exact ⟨o, ho, fun v q => by rw [d] at q; cases q⟩
  | lst a =>
    obtain ⟨o, ho, _, d⟩ := st
    exact ⟨o, ho, fun v q => by rw [d] at q; cases q⟩
  | tup a =>
    obtain ⟨o, ho, _, d⟩ := st
    exact ⟨o, ho, fun v q => by rw [d] at q; cases q⟩
theorem vals_at {xs : List V} {us : List Value} (rv : Vals xs us) {j : Nat} {u : Value} (h : us[j]? = some u) : ∃ x, xs[j]? = some x ∧ RelV x u := by
  have hj : j < us.length := (List.getElem?_eq_some_iff.mp h).1
  have hx : j < xs.length := by rw [rv.length]; exact hj
  obtain ⟨u', h1, h2⟩ := rv.get (List.getElem?_eq_getElem hx)
  rw [h] at h1
  cases h1
  exact ⟨_, List.getElem?_eq_getElem hx, h2⟩
theorem src_draws {X : Cx} {pins : List (Addr × Obj)} {σ : L2.St} {H : Hp} {s : Shared} (I : Inv X pins σ H s) {A : Around} (hh : A.handled = none) {k : SK} {xs : List V} (hs : SrcK X.K H k xs) {it : Addr} {i : Nat} (hi : k.it it i s.heap) (hne : ∀ a ∈ k.ad, a ≠ it) :
    ∃ (n : Nat) (P : Nat → Value → Prop) (St : Nat → Heap → Prop), Draws X.prog X.w A it (it :: k.ad) n P St ∧ St i s.heap ∧ n = xs.length ∧ (∀ j v, P j v → ∃ x, xs[j]? = some x ∧ RelV x v) ∧ ∀ j h, St j h → k.it it j h := by
  cases k with
  | txt x =>
    obtain ⟨t, hi⟩ := hi
    refine ⟨_, _, _, Draws.text hh it x t, hi, ?_, ?_, fun j h st => ⟨t, st⟩⟩
    · rw [show xs = _ from hs]; simp
    · rintro j v ⟨c, u, hc, rfl⟩
      refine ⟨.str ⟨#[c]⟩, ?_, u, rfl⟩
      rw [show xs = _ from hs, List.getElem?_map]
      simp [hc]
  | lst a =>
    obtain ⟨its, rv, p, _⟩ := I.list hs
    refine ⟨_, _, _, Draws.list hh it a (hne a (by simp [SK.ad])) its.toArray, ⟨hi, p.isList⟩, by simp [rv.length], fun j v hv => vals_at rv (by simpa using hv), fun j h st => st.1⟩
  | tup a =>
    obtain ⟨its, rv, p, _⟩ := I.tuple hs
    refine ⟨_, _, _, Draws.tuple hh it a (hne a (by simp [SK.ad])) its.toArray, ⟨hi, p⟩, by simp [rv.length], fun j v hv => vals_at rv (by simpa using hv), fun j h st => st.1⟩
def ItzM (K : PySem.W.Frag) (k1 k2 : SK) (xs ys : List V) : It :=
  ⟨fun i H => SrcK K H k1 xs ∧ SrcK K H k2 ys ∧ i < xs.length ∧ i < ys.length,
    fun i H v H' => ∃ T x y, v = .ref T ∧ H T = none ∧ H' = upd H T (.tup [x, y]) ∧ xs[i]? = some x ∧ ys[i]? = some y,
    fun i H => SrcK K H k1 xs ∧ SrcK K H k2 ys ∧ i ≤ xs.length ∧ i ≤ ys.length ∧ (i = xs.length ∨ i = ys.length)⟩
theorem turn_zipM {P : Program} {w : World} {K : PySem.W.Frag} {elts : List Expr} {kk : Nat} {tpos : Pos} {z TI TO i1 i2 : Addr} {k1 k2 : SK} {xs ys : List V} (D : ZipSep2 z TI TO i1 i2 (i1 :: k1.ad) (i2 :: k2.ad)) (n1 : ∀ a ∈ k1.ad, a ≠ i1) (n2 : ∀ a ∈ k2.ad, a ≠ i2) :
    Turn P w K (.Tuple elts kk tpos) (ItzM K k1 k2 xs ys) [z, TI, TO, i1, i2] z (fun i h => IsZip h z TI TO .none ∧ IsTupOf2 h TI (.ref i1) (.ref i2) ∧ (∃ x y, IsTupOf2 h TO x y) ∧ k1.it i1 i h ∧ k2.it i2 i h) where
  mem := by simp
  obj := fun i h st c hc => by
    obtain ⟨hz, hTI, ⟨x, y, hTO⟩, h1, h2⟩ := st
    have e' : c = z ∨ c = TI ∨ c = TO ∨ c = i1 ∨ c = i2 := by simpa using hc
    rcases e' with q | q | q | q | q
    · rw [q]; exact ⟨_, hz, fun v q => nomatch q⟩
    · rw [q]; exact ⟨_, hTI, fun v q => nomatch q⟩
    · rw [q]; exact ⟨_, hTO, fun v q => nomatch q⟩
    · rw [q]; exact SK.it_obj h1
    · rw [q]; exact SK.it_obj h2
  keep := fun i h h' st k => by
    obtain ⟨hz, hTI, ⟨x, y, hTO⟩, h1, h2⟩ := st
    exact ⟨k z (by simp) _ hz, k TI (by simp) _ hTI, ⟨x, y, k TO (by simp) _ hTO⟩, SK.it_at h1 fun o q => k i1 (by simp) o q, SK.it_at h2 fun o q => k i2 (by simp) o q⟩
  item := by
    intro X hP hw hK hc i pins s σ H E I hf st hg
    subst hP hw hK
    obtain ⟨hz, hTI, ⟨x0, y0, hTO⟩, h1, h2⟩ := st
    obtain ⟨hs1, hs2, l1, l2⟩ := hg
    have hh : X.A.in1.handled = none := I.ok.hd hc
    obtain ⟨m1, P1, St1, D1, st1, e1, r1, g1⟩ := src_draws I hh hs1 h1 n1
    obtain ⟨m2, P2, St2, D2, st2, e2, r2, g2⟩ := src_draws I hh hs2 h2 n2
    have hzl : z < s.heap.objs.size := Heap.lt_size hz
    refine wpAny_pyNext_zipD2_item D D1 D2 hz hTI hTO st1 st2 (by omega) (by omega) fun u u2 h' tk y1 y2 z' TO' d1 d2 hT hsz hk => ?_
    obtain ⟨x, hx, ru⟩ := r1 i u y1
    obtain ⟨y, hy, ru2⟩ := r2 i u2 y2
    refine ⟨_, rfl, wpAny_letOwnedTupleGo_zip (s := { s with heap := h', toks := tk }) z' fun h'' z'' sb => ?_⟩
    have hT2 : h''.get? s.heap.objs.size = some { cls := .type "tuple", data := .seq #[u, u2] } := (sb.2 _ (Nat.ne_of_gt hzl)).trans hT
    have new : ObjOk X.prog X.w (upd H s.heap.objs.size (.tup [x, y])) h'' s.heap.objs.size (.tup [x, y]) :=
      ⟨by show 2 ≤ sizeLine; decide, [u, u2], .cons ru (.cons ru2 .nil), ⟨_, hT2, rfl, _, rfl⟩⟩
    have I1 : Inv X pins σ (upd H s.heap.objs.size (.tup [x, y])) { s with heap := h'', toks := tk } :=
      I.turnedNew (t' := tk) (ch := [z, TI, TO, i1, i2]) (fun c o hb q => (sb.2 c (fun q' => hb (by simp [q']))).trans (hk c o (fun q' => hb (by simp [q'])) (fun q' => hb (by simp [q'])) (fun q' => hb (by simp [q'])) (fun q' => hb (by simp [q'])) q)) hf (Nat.le_refl _) new
    refine ⟨.ref s.heap.objs.size, _, I1, rfl, ⟨_, x, y, rfl, I.hok.fresh (Nat.le_refl _), rfl, hx, hy⟩, ⟨z'', ?_, ⟨u, u2, ?_⟩, ?_, ?_⟩, fun c hcm => ?_⟩
    · exact (sb.2 _ D.TIz).trans (hk _ _ D.TIz D.TITO D.TIi1 D.TIi2 hTI)
    · exact (sb.2 _ D.TOz).trans TO'
    · exact SK.it_at (g1 _ _ d1) fun o q => (sb.2 _ D.zi1.symm).trans q
    · exact SK.it_at (g2 _ _ d2) fun o q => (sb.2 _ D.zi2.symm).trans q
    · have hlt : c < s.heap.objs.size := by
        have e' : c = z ∨ c = TI ∨ c = TO ∨ c = i1 ∨ c = i2 := by simpa using hcm
        rcases e' with q | q | q | q | q
        · rw [q]; exact hzl
        · rw [q]; exact Heap.lt_size hTI
        · rw [q]; exact Heap.lt_size hTO
        · rw [q]; obtain ⟨_, e1, _⟩ := SK.it_obj h1; exact Heap.lt_size e1
        · rw [q]; obtain ⟨_, e2, _⟩ := SK.it_obj h2; exact Heap.lt_size e2
      rw [upd_ne (Nat.ne_of_lt hlt)]
      exact (hf c hcm).1
  done := by
    intro X hP hw hK hc i pins s σ H E I hf st hg
    subst hP hw hK
    obtain ⟨hz, hTI, ⟨x0, y0, hTO⟩, h1, h2⟩ := st
    obtain ⟨hs1, hs2, l1, l2, l3⟩ := hg
    have hh : X.A.in1.handled = none := I.ok.hd hc
    obtain ⟨m1, P1, St1, D1, st1, e1, r1, g1⟩ := src_draws I hh hs1 h1 n1
    obtain ⟨m2, P2, St2, D2, st2, e2, r2, g2⟩ := src_draws I hh hs2 h2 n2
    exact wpAny_pyNext_zipD2_end D D1 D2 hz hTI hTO st1 st2 (by omega) (by omega) (by omega) fun h' tk hk => ⟨rfl, I.turnedL (t' := tk) (ch := [z, TI, TO, i1, i2]) (fun c o hb q =>
      hk c o (fun q' => hb (by simp [q'])) (fun q' => hb (by simp [q'])) (fun q' => hb (by simp [q'])) (fun q' => hb (by simp [q'])) q) hf⟩
  self := fun A i s Q E st h => wpAny_pyIter_zip st.1 h
def iZipM (K : PySem.W.Frag) (ta : TA) : TI := fun σ H R => ta σ H fun vs H1 => ∃ k1 k2 xs ys, vs = [SK.v k1, SK.v k2] ∧ SrcK K H1 k1 xs ∧ SrcK K H1 k2 ys ∧ R (ItzM K k1 k2 xs ys) H1
theorem src_begins {X : Cx} {pins : List (Addr × Obj)} {σ : L2.St} {H : Hp} {s : Shared} (I : Inv X pins σ H s) {k : SK} {xs : List V} (hs : SrcK X.K H k xs) {u : Value} (ru : RelV k.v u) :
    ∃ o B, Begins u o B ∧ B s.heap ∧ (∀ a ∈ k.ad, a < s.heap.objs.size) ∧ ∀ (h : Heap) (it : Addr), h.get? it = some o → k.it it 0 h := by
  cases k with
  | txt x =>
    obtain ⟨t, rfl⟩ := ru
    exact ⟨_, _, begins_text x t, trivial, fun a ha => (nomatch ha), fun h it e => ⟨t, _, e, rfl, rfl⟩⟩
  | lst a =>
    cases ru
    obtain ⟨its, rv, p, _⟩ := I.list hs
    refine ⟨_, _, begins_list a its.toArray, p.isList, fun b hb => ?_, fun h it e => ⟨_, e, rfl, rfl⟩⟩
    have : b = a := by simpa [SK.ad] using hb
    rw [this]; exact p.lt
  | tup a =>
    cases ru
    obtain ⟨its, rv, p, _⟩ := I.tuple hs
    refine ⟨_, _, begins_tuple a its.toArray, p, fun b hb => ?_, fun h it e => ⟨_, e, rfl, rfl⟩⟩
    have : b = a := by simpa [SK.ad] using hb
    obtain ⟨o1, ho1, _⟩ := id p
    rw [this]; exact Heap.lt_size ho1
theorem nin {n m : Nat} {l : List Nat} (lt : ∀ a ∈ l, a < n) {k : Nat} (h1 : k ≠ m) (h2 : n ≤ k) : ¬ k ∈ m :: l := fun z => by
  rcases List.mem_cons.mp z with z | z
  · exact h1 z
  · have := lt _ z; omega
theorem sep_new {n : Nat} {l1 l2 : List Nat} (lt1 : ∀ a ∈ l1, a < n) (lt2 : ∀ a ∈ l2, a < n) : ZipSep2 (n + 4) (n + 2) (n + 3) n (n + 1) (n :: l1) ((n + 1) :: l2) where
  TIz := show ¬ ((n + 2 : Nat) = n + 4) by omega
  TOz := show ¬ ((n + 3 : Nat) = n + 4) by omega
  TITO := show ¬ ((n + 2 : Nat) = n + 3) by omega
  TIi1 := show ¬ ((n + 2 : Nat) = n) by omega
  mem1 := List.mem_cons_self
  zf1 := nin lt1 (show ¬ ((n + 4 : Nat) = n) by omega) (Nat.le_add_right _ _)
  Tf1 := nin lt1 (show ¬ ((n + 3 : Nat) = n) by omega) (Nat.le_add_right _ _)
  TIi2 := show ¬ ((n + 2 : Nat) = n + 1) by omega
  mem2 := List.mem_cons_self
  zf2 := nin lt2 (show ¬ ((n + 4 : Nat) = n + 1) by omega) (Nat.le_add_right _ _)
  Tf2 := nin lt2 (show ¬ ((n + 3 : Nat) = n + 1) by omega) (Nat.le_add_right _ _)
  sep1_2 := nin lt2 (show ¬ ((n : Nat) = n + 1) by omega) (Nat.le_refl _)
  sep2_1 := nin lt1 (show ¬ ((n + 1 : Nat) = n) by omega) (Nat.le_add_right _ _)
theorem pi_zipM {X : Cx} {e e2 : Expr} {ta : TA} {p pos tpos : Pos} {elts : List Expr} {kk : Nat} (hg : Gl X "zip") (hm : X.mg "zip" = none) (ha : PA X [e, e2] ta)
    (hs : starEach [e, e2] X.env = (false, eval e X.env) :: starEach [e2] X.env := by rfl) (hpl : (backTo pos (starEach [e2] X.env)).any (·.1) = false := by rfl) :
    PI X (.Tuple elts kk tpos) (.Call (.Name "zip" p) [e, e2] [] pos) (iZipM X.K ta) := by
  refine ⟨fun pins s σ H R I h => ?_⟩
  refine Call_ (ld_blt I hg hm PyProof.Rows.boot_zip (PyProof.Rows.callWith_type1 (thn (ha.run pos pins s σ H _ I h) fun us s1 ⟨vs, H1, I1, r1, q1⟩ => ?_) hs hpl))
  obtain ⟨k1, k2, xs, ys, ex, hqx, hqy, q⟩ := q1
  subst ex
  cases r1 with
  | cons r rr =>
    cases rr with
    | cons r' rr =>
      cases rr
      have fresh5 : ∀ c, c ∈ [s1.heap.objs.size + 4, s1.heap.objs.size + 2, s1.heap.objs.size + 3, s1.heap.objs.size, s1.heap.objs.size + 1] → FpOk X pins H1 c := fun c hcm => by
        have e' : c = s1.heap.objs.size + 4 ∨ c = s1.heap.objs.size + 2 ∨ c = s1.heap.objs.size + 3 ∨ c = s1.heap.objs.size ∨ c = s1.heap.objs.size + 1 := by simpa using hcm
        have hle : s1.heap.objs.size ≤ c := by
          rcases e' with z | z | z | z | z
          · rw [z]; exact Nat.le_add_right _ _
          · rw [z]; exact Nat.le_add_right _ _
          · rw [z]; exact Nat.le_add_right _ _
          · rw [z]; exact Nat.le_refl _
          · rw [z]; exact Nat.le_add_right _ _
        exact I1.fpOk hle (I1.hok.fresh hle)
      obtain ⟨o1, B1, b1, hb1, lt1, g1⟩ := src_begins I1 hqx r
      obtain ⟨o2, B2, b2, hb2, lt2, g2⟩ := src_begins I1 hqy r'
      refine zip_begins2 b1 b2 hb1 hb2 fun h' hz hTI hTO ho1 ho2 hsz hk => wpAny_pyIter_zip hz ?_
      have I2 : Inv X pins σ H1 { s1 with heap := h' } := I1.kept (t' := s1.toks) hk
      have D : ZipSep2 (s1.heap.objs.size + 4) (s1.heap.objs.size + 2) (s1.heap.objs.size + 3) s1.heap.objs.size (s1.heap.objs.size + 1) (s1.heap.objs.size :: k1.ad) ((s1.heap.objs.size + 1) :: k2.ad) := sep_new lt1 lt2
      exact ⟨s1.heap.objs.size + 4, [s1.heap.objs.size + 4, s1.heap.objs.size + 2, s1.heap.objs.size + 3, s1.heap.objs.size, s1.heap.objs.size + 1], _, _, H1, rfl, I2, turn_zipM D (fun a ha => Nat.ne_of_lt (lt1 a ha)) (fun a ha => Nat.ne_of_lt (Nat.lt_succ_of_lt (lt2 a ha))), ⟨hz, hTI, ⟨_, _, hTO⟩, g1 _ _ ho1, g2 _ _ ho2⟩, fresh5, q⟩
theorem walk_zipM {K : PySem.W.Frag} {k1 k2 : SK} {xs ys : List V} {n : Nat} (hn : n = min xs.length ys.length) : Walk (ItzM K k1 k2 xs ys) n (fun H => SrcK K H k1 xs ∧ SrcK K H k2 ys) (YPair (fun i => xs[i]?) (fun i => ys[i]?)) := by
  subst hn
  refine ⟨fun i _ hi q => ⟨q.1, q.2, by omega, by omega⟩, fun _ q => ⟨q.1, q.2, by omega, by omega, by omega⟩, fun i H v H' _ q y => ?_⟩
  obtain ⟨T, x, z, h1, h2, h3, h4, h5⟩ := y
  exact ⟨T, x, z, h1, h2, h3, h4, h5⟩
section
variable {X : Cx} {W : WX} {pos : Pos}
/-- zip of two: lists, tuples, texts -/
def iZ2 (fs : En → Rs (List PyData)) : En → Rs (List PyData) := fun ρ => (fs ρ).bind fun ds => match ds with
  | [a, b] => match seqD a, seqD b with
    | some x, some y => .ok (zipD x y)
    | _, _ => .bad
  | _ => .bad
theorem src_of {K : PySem.W.Frag} {F : Hp} {v : V} {d : PyData} {ds : List PyData} (r : Rp K F v d) (h : seqD d = some ds) : ∃ k xs, v = SK.v k ∧ RpAll K F xs ds ∧ ∀ H, Same F H → SrcK K H k xs := by
  cases r with
  | lst r t => cases h; exact ⟨.lst _, _, rfl, t, fun H s => .inl (same_rd s r)⟩
  | tup r t => cases h; exact ⟨.tup _, _, rfl, t, fun H s => same_sqT s r⟩
  | str x hx =>
    cases h
    refine ⟨.txt x, x.cps.toList.map fun c => V.str ⟨#[c]⟩, rfl, ?_, fun H s => rfl⟩
    have : signs x = (x.cps.toList.map fun c => (⟨#[c]⟩ : Str)).map PyData.str := by simp [signs]
    rw [this]
    have e2 : (x.cps.toList.map fun c => V.str ⟨#[c]⟩) = (x.cps.toList.map fun c => (⟨#[c]⟩ : Str)).map V.str := by simp
    rw [e2]
    refine RpAll.strs _ fun y hy => ?_
    obtain ⟨c, hc, rfl⟩ := List.mem_map.mp hy
    exact ⟨by show 1 ≤ sizeLine; decide, strOk_iff.mpr fun d hd => by
      have : d = c := by simpa using hd
      rw [this]; exact strOk_iff.mp hx.ok c hc⟩
  | _ => cases h
theorem di_zip2 {a b : Expr} {fs : En → Rs (List PyData)} {p tpos : Pos} {elts : List Expr} {kk : Nat} (hm : X.mg "zip" = none) (ha : DA X W [a, b] fs) (hg : Gl X "zip" := by rfl) (hs : starEach [a, b] X.env = (false, eval a X.env) :: starEach [b] X.env := by rfl) (hpl : (backTo pos (starEach [b] X.env)).any (·.1) = false := by rfl) :
    DI X W (.Tuple elts kk tpos) (.Call (.Name "zip" p) [a, b] [] pos) (iZ2 fs) :=
  PI.imp (pi_zipM hg hm ha hs hpl) fun σ H R ⟨ρ, F, G, o⟩ => args_then (O := fun F H r => OutI X.K X.mg W σ F H r R) G o (fun _ _ _ o => o) (fun _ _ o => o) fun F' H' ds vs gr G' o' bb => by
    split at o'
    · rename_i d1 d2
      cases bb with
      | cons ra rn =>
        cases rn with
        | cons rb rn =>
          cases rn
          split at o'
          · rename_i x y hx hy
            obtain ⟨k1, xs, rfl, t, s1⟩ := src_of ra hx
            obtain ⟨k2, ys, rfl, t', s2⟩ := src_of rb hy
            refine ⟨k1, k2, xs, ys, rfl, s1 _ gr.sub, s2 _ gr.sub, o' _ F' H' gr ⟨fun H => SrcK X.K H k1 xs ∧ SrcK X.K H k2 ys, _, walk_zipM (by rw [zipD_length, t.length, t'.length]), fun H s => ⟨s1 H s, s2 H s⟩, fun i F2 H2 x H3 hi s1' s2' y => ?_⟩⟩
            obtain ⟨T, x1, x2, rfl, nT, rfl, e1, e2⟩ := y
            obtain ⟨d1, h1, k1⟩ := t.getV e1
            obtain ⟨d2, h2, k2⟩ := t'.getV e2
            have sm := s1'.trans (same_upd (o := .tup [x1, x2]) (s2'.free nT))
            exact ⟨upd F2 T (.tup [x1, x2]), _, zipD_get _ _ i d1 d2 h1 h2, Grow.laid s2' nT, .tup (.inl (.inl upd_same)) (.cons (k1.mono sm) (.cons (k2.mono sm) .nil))⟩
          · exact o'.elim
    · exact o'.elim
end
end DL
namespace DL
open PySem PySem.Spec L2
section
variable {X : Cx} {W : WX} {F0 H0 : Hp} {st : Stmt} {rest body : List Stmt} {f g : DS} {a b c e : Expr} {fa fb fc fe fk : DEx} {pos : Pos} {es : List Expr} {fs : En → Rs (List PyData)}
/-! ### str(n), int(text) -/
def dStr : List PyData → Option PyData
  | [.int i] => if i.natAbs.log2 < 1920 ∧ sokB (toString i) = true then some (.str (toString i)) else none
  | _ => none
theorem ref_str (K : PySem.W.Frag) : RefA K (fun xs H Q => ∃ i, xs = [.int i] ∧ i.natAbs.log2 < 1920 ∧ Q (.str (toString i)) H) dStr := by
  intro F H vs ds d Q s b e k
  unfold dStr at e
  split at e
  · split at e
    · cases e
      rename_i hh
      obtain ⟨v, rfl, r⟩ := b.one
      exact ⟨_, by rw [r.int], hh.1, k _ F H (.refl s) (.str _ (SOk.dec hh.2))⟩
    · cases e
  · cases e
def dIntS : List PyData → Option PyData
  | [.str a] => if a.length ≤ 640 then (PySem.intText? a).map PyData.int else none
  | _ => none
theorem ref_int (K : PySem.W.Frag) : RefA K (fun xs H Q => ∃ a n, xs = [.str a] ∧ PySem.intText? a = some n ∧ a.length ≤ 640 ∧ Q (.int n) H) dIntS := by
  intro F H vs ds d Q s b e k
  unfold dIntS at e
  split at e
  · rename_i a
    split at e
    · rename_i hl
      cases q : PySem.intText? a with
      | none => rw [q] at e; cases e
      | some n =>
        rw [q] at e
        cases e
        obtain ⟨v, rfl, r⟩ := b.one
        exact ⟨a, n, by rw [r.str], q, hl, k _ F H (.refl s) (.int _)⟩
    · cases e
  · cases e
end
end DL
namespace DL
open PySem PySem.Spec L2 PyProof.Rows
section
variable {X : Cx} {W : WX}
/-! ### xs.count(y), flat items -/
def rCntF (K : PySem.W.Frag) : V → List V → Hp → VK → Prop := fun x xs H Q => ∃ (a : Addr) (ys : List V) (y : V), x = V.ref a ∧ xs = [y] ∧ SqL K H a ys ∧ flatV y = true ∧ ys.all flatV = true ∧ Q (.int (ys.countP (fun z => eqV z y) : Nat)) H
theorem countP_eqU {y : V} : ∀ {ys : List V} {us : List Value}, Vals ys us → ys.all flatV = true → us.countP (eqU y) = ys.countP fun z => eqV z y
  | _, _, .nil, _ => rfl
  | _ :: _, _ :: _, .cons r t, f => by
    rw [List.all_cons, Bool.and_eq_true] at f
    rw [List.countP_cons, List.countP_cons, countP_eqU t f.2, eqU_of r f.1]
theorem mt_lcountF : MtR X "list.count" (rCntF X.K) := by
  intro pins s σ H x xs v us Q I rx rxs h
  obtain ⟨a, ys, y, rfl, rfl, hs, fy, fys, q⟩ := h
  cases rx
  cases rxs with
  | cons ry rt =>
    rename_i uy ut
    cases rt
    obtain ⟨its, rv, ⟨⟨cls, dd, data, sl⟩, n, ho, hc, hdn, hd⟩, hlen⟩ := I.list hs
    simp only at hc hd
    subst hc hd
    refine call_meets PySem.F.slot_list_count ⟨_, ho, rfl⟩ PySem.F.entry_list_count (PySem.F.args_list_count_2 _ _)
      (SeqAt.list_countAt a its.toArray n dd sl uy (eqU y)) ⟨ho, fun u' hu' => mem_eqAt ry fy rv fys u' (by simpa using hu'), ?_⟩
    refine ⟨.int (ys.countP (fun z => eqV z y) : Nat), H, I.tok _, ⟨s.toks, ?_⟩, q⟩
    show Value.int ((its.toArray.toList.countP (eqU y) : Nat) : Int) s.toks = _
    rw [← countP_eqU rv fys]
def dLCnt : PyData → List PyData → Option PyData
  | .list ds, [y] => if flatD y && ds.all flatD then some (.int (ds.countP (fun z => PyData.eqv z y) : Nat)) else none
  | _, _ => none
theorem countP_rp {K : PySem.W.Frag} {F : Hp} {y : PyData} {v : V} (ry : Rp K F v y) (fy : flatD y = true) : ∀ {xs : List V} {ds : List PyData}, RpAll K F xs ds → (∀ z ∈ ds, flatD z = true) → xs.countP (fun z => eqV z v) = ds.countP fun z => PyData.eqv z y
  | _, _, .nil, _ => rfl
  | _ :: _, d :: _, .cons r t, f => by
    rw [List.countP_cons, List.countP_cons, countP_rp ry fy t fun z hz => f z (by simp [hz]), eqV_of r ry (f d (by simp)) fy]
theorem ref_lcnt (K : PySem.W.Frag) : RefM K (rCntF K) dLCnt := by
  intro F H x d0 vs ds d Q s bx b e k
  unfold dLCnt at e
  split at e
  · rename_i es y
    split at e
    · rename_i hf
      rw [Bool.and_eq_true] at hf
      cases e
      obtain ⟨v, rfl, r⟩ := b.one
      obtain ⟨p, xs, rfl, q1, q2⟩ := bx.list s
      have ry := rp_flat r hf.1
      have fl : ∀ z ∈ es, flatD z = true := List.all_eq_true.mp hf.2
      refine ⟨p, xs, v, rfl, rfl, .inl q1, by rw [flat_of ry]; exact hf.1, by rw [flat_all q2]; exact hf.2, ?_⟩
      rw [countP_rp ry hf.1 q2 fl]
      exact k _ F H (.refl s) (.int _)
    · cases e
  · cases e
/-! ### sum of a tuple -/
def rSumT (K : PySem.W.Frag) : List V → Hp → VK → Prop := fun vs H Q => ∃ (a : Addr) (ns : List Int), vs = [V.ref a] ∧ SqT K H a (ns.map V.int) ∧ Q (.int ns.sum) H
theorem cr_sumT (hc : X.calm = true) : CallR X (.builtin "sum") (rSumT X.K) := by
  intro pins s σ H vs us Q I r h
  obtain ⟨a, ns, rfl, hs, q⟩ := h
  obtain ⟨its, rv, ht, _⟩ := I.tuple hs
  rw [Vals.ref1 r]
  have hi := rv.ints
  obtain ⟨xs, e⟩ := hi.allInts.items
  have hn : numsOf (intItems xs).toList = ns := by rw [← e]; exact hi.numsOf
  rw [nums_intItems] at hn
  have ht' : s.heap.IsTuple a its.toArray := ht
  rw [e] at ht'
  refine PySem.W.ktm_sumG (I.ok.hd hc) ht' fun h' tk t' hk => ?_
  rw [preSum_eq, List.take_of_length_le (by simp), hn]
  exact ⟨.int _, H, I.kept hk, ⟨_, rfl⟩, q⟩
def dSumT : List PyData → Option PyData
  | [.tuple ds] => (intsOf ds).map fun ns => .int ns.sum
  | _ => none
theorem ref_sumT (K : PySem.W.Frag) : RefA K (rSumT K) dSumT := by
  intro F H vs ds d Q s b e k
  unfold dSumT at e
  split at e
  · rename_i es
    cases q : intsOf es with
    | none => rw [q] at e; cases e
    | some ns =>
      rw [q] at e
      cases e
      have hq := intsOf_eq q
      subst hq
      obtain ⟨v, rfl, r⟩ := b.one
      obtain ⟨p, ys, rfl, q1, q2⟩ := r.tup s
      have e2 := q2.inj_ints
      subst e2
      exact ⟨p, ns, rfl, q1, k _ F H (.refl s) (.int _)⟩
  · cases e
/-- a, b, c = e1, e2, e3 -/
def sPar3 (i j l : Nat) (fs : En → Rs (List PyData)) : DS := fun ρ => sBind (fs ρ) ρ fun ds => match ds with
  | [a, b, c] => .nx (((ρ.set i (some (.fz a))).set j (some (.fz b))).set l (some (.fz c)))
  | _ => .bad
theorem ds_par3 {F0 H0 : Hp} {i j l : Nat} {x y z : Str} {a b c : Expr} {fs : En → Rs (List PyData)} {px py pz pt pos : Pos} {kt k2 pt2} (hc : X.calm = true) (hN : X.N.Nodup) (ha : DA X W [a, b, c] fs) (hi : X.N[i]? = some x := by rfl) (hj : X.N[j]? = some y := by rfl) (hl : X.N[l]? = some z := by rfl) (hij : i ≠ j := by decide) (hil : i ≠ l := by decide) (hjl : j ≠ l := by decide)
    (hx : X.env.scope.names.lookup x = some .local := by rfl) (hy : X.env.scope.names.lookup y = some .local := by rfl) (hz : X.env.scope.names.lookup z = some .local := by rfl)
    (hw : swappedStores [.Tuple [.Name x px, .Name y py, .Name z pz] kt pt] (.Tuple [a, b, c] k2 pt2) X.env = pure (some [x, y, z]) := by rfl)
    (hs : swapsWithSole [.Tuple [.Name x px, .Name y py, .Name z pz] kt pt] (.Tuple [a, b, c] k2 pt2) pos.line X.env = pure false := by rfl) :
    DSt X W F0 H0 (.Assign [.Tuple [.Name x px, .Name y py, .Name z pz] kt pt] (.Tuple [a, b, c] k2 pt2) pos) (sPar3 i j l fs) :=
  PS.imp (ps_par3 hc hN hi hj hl hij hil hjl hx hy hz ha hw hs) fun D σ H ⟨ρ, F, G, o⟩ => by
    refine ⟨ρ, F, G.gd, ?_⟩
    unfold sPar3 sBind at o
    cases q : fs ρ with
    | bad => rw [q] at o; exact o
    | ex c => rw [q] at o; exact exS G o
    | ok ds =>
      rw [q] at o
      intro vs F' H' gr r
      cases r with
      | nil => exact o.elim
      | cons r1 t =>
        cases t with
        | nil => exact o.elim
        | cons r2 t =>
          cases t with
          | nil => exact o.elim
          | cons r3 t =>
            cases t with
            | nil => exact ⟨_, _, _, rfl, o _ F' H' ((((G.grow gr).put r1).put r2).put r3)⟩
            | cons _ _ => exact o.elim
end
end DL
namespace DL
open PySem PySem.Spec L2
section
variable {X : Cx} {W : WX} {F0 H0 : Hp}
/-- a, b = a new list, e2 -/
def sParN (i j : Nat) (fn : En → Rs (List PyData)) (fe : DEx) : DS := fun ρ => sBind (fn ρ) ρ fun ds => sBind (fe ρ) ρ fun d => .nx ((ρ.set i (some (.own ds))).set j (some (.fz d)))
theorem ds_parN {i j : Nat} {x y : Str} {a b : Expr} {fn : En → Rs (List PyData)} {fe : DEx} {px py pt pos : Pos} {kt k2 pt2} (hc : X.calm = true) (hN : X.N.Nodup) (ha : DN X W a fn) (hb : DE X W b fe) (hi : X.N[i]? = some x := by rfl) (hj : X.N[j]? = some y := by rfl) (hij : i ≠ j := by decide)
    (hx : X.env.scope.names.lookup x = some .local := by rfl) (hy : X.env.scope.names.lookup y = some .local := by rfl)
    (s1 : starEach [a, b] X.env = (false, eval a X.env) :: starEach [b] X.env := by rfl) (s2 : starEach [b] X.env = (false, eval b X.env) :: starEach [] X.env := by rfl)
    (hw : swappedStores [.Tuple [.Name x px, .Name y py] kt pt] (.Tuple [a, b] k2 pt2) X.env = pure (some [x, y]) := by rfl)
    (hs : swapsWithSole [.Tuple [.Name x px, .Name y py] kt pt] (.Tuple [a, b] k2 pt2) pos.line X.env = pure false := by rfl) :
    DSt X W F0 H0 (.Assign [.Tuple [.Name x px, .Name y py] kt pt] (.Tuple [a, b] k2 pt2) pos) (sParN i j fn fe) :=
  PS.imp (ps_par hc hN hi hj hij hx hy (pa_cons ha (pa_cons hb pa_nil s2) s1) hw hs) fun D σ H ⟨ρ, F, G, o⟩ =>
    newS G o fun F' H' ds p xs g o' G' n1 n2 h r => expS G' o' fun F2 H2 d w g2 o2 G2 r2 => by
      refine ⟨.ref p, w, rfl, o2 _ F2 H2 ((G2.putOwn (x := .own ds) ⟨p, xs, rfl, g2.h _ _ h, g2.new p _ h n2, r.mono g2.f⟩ (G.gr.h.free n1) fun k y hk ek oy z => ?_).put r2)⟩
      obtain ⟨u, hu, _⟩ := G.gd.own_at (by first | exact (g.trans g2).h | exact g.h.trans g2.h) ek oy z
      rw [n1] at hu; cases hu
end
end DL
namespace DL
open PySem PySem.Spec L2
/-! ## a comprehension inside a comprehension -/
theorem rel_cf {env : Env} : ∀ {names : List (Str × NameKind)} {x : Str}, (names.lookup x = some .cell ∨ names.lookup x = some .free) →
    ((names.map fun (n, k) => if (k == NameKind.free && env.scope.kind == .function && env.kindOf n == some .cell) then (n, NameKind.cell) else (n, k)).lookup x = some .cell ∨
     (names.map fun (n, k) => if (k == NameKind.free && env.scope.kind == .function && env.kindOf n == some .cell) then (n, NameKind.cell) else (n, k)).lookup x = some .free)
  | [], _, h => by simp at h
  | (n, k) :: r, x, h => by
    have ih := @rel_cf env r x
    show (List.lookup x ((if (k == NameKind.free && env.scope.kind == .function && env.kindOf n == some .cell) = true then (n, NameKind.cell) else (n, k)) :: _) = _ ∨ List.lookup x ((if (k == NameKind.free && env.scope.kind == .function && env.kindOf n == some .cell) = true then (n, NameKind.cell) else (n, k)) :: _) = _)
    cases hx : x == n with
    | true =>
      simp only [List.lookup_cons, hx] at h
      by_cases hc : (k == NameKind.free && env.scope.kind == .function && env.kindOf n == some .cell) = true
      · rw [if_pos hc]; simp [List.lookup_cons, hx]
      · rw [if_neg hc]; simp only [List.lookup_cons, hx]; exact h
    | false =>
      simp only [List.lookup_cons, hx] at h
      by_cases hc : (k == NameKind.free && env.scope.kind == .function && env.kindOf n == some .cell) = true
      · rw [if_pos hc]; simp only [List.lookup_cons, hx]; exact ih h
      · rw [if_neg hc]; simp only [List.lookup_cons, hx]; exact ih h
theorem blkOk_rel {N : List Str} {sc scope : Scope} {env : Env} {own : List (Str × Nat)} (ok : BlkOk N sc scope own) : BlkOk N (relabel sc env) scope own :=
  ⟨ok.kind, ok.uniq, ok.ix, fun y hy e => rel_cf (ok.free y hy e), ok.own⟩
section
variable {X : Cx} {W : WX} {F0 H0 : Hp}
/-- a, b = a new list, e2, with a or b a cell -/
theorem ds_tgtN {i j : Nat} {tg a b : Expr} {fn : En → Rs (List PyData)} {fe : DEx} {pos : Pos} {k2 pt2} (ha : DN X W a fn) (hb : DE X W b fe) (hij : i ≠ j)
    (hg : PG X tg (gTup X.K 2 (gCons (gName i) (gCons (gName j) gNil))))
    (s1 : starEach [a, b] X.env = (false, eval a X.env) :: starEach [b] X.env := by rfl) (s2 : starEach [b] X.env = (false, eval b X.env) :: starEach [] X.env := by rfl)
    (hs : swapsWithSole [tg] (.Tuple [a, b] k2 pt2) pos.line X.env = pure false := by rfl) (hw : swappedStores [tg] (.Tuple [a, b] k2 pt2) X.env = pure none := by rfl)
    (h1 : (assignEach [tg] X.env).map (·.2) = [assign tg X.env] := by rfl) :
    DSt X W F0 H0 (.Assign [tg] (.Tuple [a, b] k2 pt2) pos) (sParN i j fn fe) :=
  PS.imp (ps_asg (pe_tup (pa_cons ha (pa_cons hb pa_nil s2) s1)) hg hs hw h1) fun D σ H ⟨ρ, F, G, o⟩ =>
    newS G o fun F' H' ds p xs g o' G' n1 n2 h r => expS G' o' fun F2 H2 d w g2 o2 G2 r2 => by
      refine ⟨show 2 ≤ sizeLine by decide +kernel, fun q hq => ⟨_, _, rfl, .inl (.inl upd_same), rfl, _, _, rfl, _, _, rfl, rfl, ?_⟩⟩
      have gq : Grow F2 H2 F2 (upd H2 q (.tup [.ref p, w])) := Grow.open g2.sub hq
      have G3 := G2.grow gq
      have h2 := g2.h _ _ h
      refine o2 _ F2 _ ((G3.putOwn (x := .own ds) ⟨p, xs, rfl, gq.h _ _ h2, g2.new p _ h n2, r.mono g2.f⟩ (G.gr.h.free n1) fun k y hk ek oy z => ?_).put r2)
      obtain ⟨u, hu, _⟩ := G.gd.own_at (by first | exact gq.h | exact (g.trans g2).h | exact ((g.trans g2).trans gq).h) ek oy z
      rw [n1] at hu; cases hu
end
end DL
namespace DL
open PySem PySem.Spec L2
/-! ## min(texts) -/
theorem cmpOf_strs {prog : Program} {w : World} {A : Around} {P : Nat → Value → Prop} (val : Nat → Str) (hval : ∀ i v, P i v → ∃ t, v = .str (val i) t) :
    CmpOf prog w A .Lt P (fun i j => decide ((val i).cps.toList < (val j).cps.toList)) := fun i j vi vj s Q E hi hj h => by
  obtain ⟨t, rfl⟩ := hval i vi hi
  obtain ⟨u, rfl⟩ := hval j vj hj
  exact richCompare_gives (op := .Lt) (typeIs_str s _ t) (typeIs_str s _ u) F.slot_str_lt F.entry_str_lt (F.args_str_lt_2 _ _) (gives_str_lt _ _ t u) (fun x => nomatch x) h
theorem argBest_min (val : Nat → Str) : ∀ n, argBest (fun i j => decide ((val i).cps.toList < (val j).cps.toList)) n ≤ n ∧ ∀ j, j ≤ n → leS (val (argBest (fun i j => decide ((val i).cps.toList < (val j).cps.toList)) n)) (val j) = true
  | 0 => ⟨Nat.le_refl _, fun j hj => by
    have : j = 0 := by omega
    subst this
    unfold leS
    simp only [argBest, Bool.not_eq_true', decide_eq_false_iff_not]
    exact decide_eq_false (List.lt_irrefl (val 0).cps.toList)⟩
  | n + 1 => by
    obtain ⟨h1, h2⟩ := argBest_min val n
    unfold argBest
    split
    · rename_i h
      refine ⟨Nat.le_refl _, fun j hj => ?_⟩
      have hlt := of_decide_eq_true h
      by_cases e : j = n + 1
      · subst e; unfold leS; simp only [Bool.not_eq_true', decide_eq_false_iff_not]; exact List.lt_irrefl _
      · refine leS_trans _ _ _ ?_ (h2 j (by omega))
        unfold leS; simp only [Bool.not_eq_true', decide_eq_false_iff_not]; exact List.lt_asymm hlt
    · rename_i h
      refine ⟨by omega, fun j hj => ?_⟩
      by_cases e : j = n + 1
      · subst e; unfold leS; simp only [Bool.not_eq_true', decide_eq_false_iff_not]
        intro z
        exact h (decide_eq_true z)
      · exact h2 j (by omega)
def minS : List Str → Option Str
  | [] => none
  | x :: r => match minS r with
    | none => some x
    | some m => if leS x m then some x else some m
theorem minS_some : ∀ {xs : List Str}, xs ≠ [] → ∃ m, minS xs = some m ∧ m ∈ xs ∧ ∀ y ∈ xs, leS m y = true
  | [], h => absurd rfl h
  | [x], _ => ⟨x, rfl, by simp, by
    intro y hy
    simp at hy; subst hy
    unfold leS; simp only [Bool.not_eq_true', decide_eq_false_iff_not]; exact List.lt_irrefl _⟩
  | x :: y :: r, _ => by
    obtain ⟨m, h1, h2, h3⟩ := minS_some (xs := y :: r) (by simp)
    have e : minS (x :: y :: r) = if leS x m then some x else some m := by
      show (match minS (y :: r) with | none => some x | some m => if leS x m then some x else some m) = _
      rw [h1]
    rw [e]
    by_cases q : leS x m = true
    · rw [if_pos q]
      refine ⟨x, rfl, by simp, fun z hz => ?_⟩
      rcases List.mem_cons.mp hz with rfl | hz
      · unfold leS; simp only [Bool.not_eq_true', decide_eq_false_iff_not]; exact List.lt_irrefl _
      · exact leS_trans _ _ _ q (h3 z hz)
    · rw [if_neg q]
      refine ⟨m, rfl, List.mem_cons_of_mem _ h2, fun z hz => ?_⟩
      rcases List.mem_cons.mp hz with rfl | hz
      · have := leS_total z m
        rw [Bool.or_eq_true] at this
        exact this.resolve_left q
      · exact h3 z hz
theorem minS_unique {xs : List Str} {m : Str} (h1 : m ∈ xs) (h2 : ∀ y ∈ xs, leS m y = true) : minS xs = some m := by
  obtain ⟨k, e, k1, k2⟩ := minS_some (xs := xs) (fun z => by rw [z] at h1; cases h1)
  rw [e, leS_antisymm (k2 m h1) (h2 k k1)]
def dMinS : List PyData → Option PyData
  | [.list ds] => (strsOf ds).bind fun xs => (minS xs).map PyData.str
  | _ => none
def rMinS (K : PySem.W.Frag) : List V → Hp → VK → Prop := fun vs H Q => ∃ (a : Addr) (xs : List Str), vs = [V.ref a] ∧ SqL K H a (xs.map V.str) ∧ 0 < xs.length ∧ ∀ m, m ∈ xs → (∀ y ∈ xs, leS m y = true) → Q (.str m) H
section
variable {X : Cx}
theorem strs_at {xs : List Str} {us : List Value} (h : Vals (xs.map V.str) us) : us.length = xs.length ∧ ∀ (i : Nat) v, us[i]? = some v → ∃ t, v = .str (xs.getD i "") t := by
  induction xs generalizing us with
  | nil => cases h; exact ⟨rfl, fun i v e => by simp at e⟩
  | cons x r ih =>
    cases h with
    | cons a b =>
      obtain ⟨h1, h2⟩ := ih b
      refine ⟨by simp [h1], fun i v e => ?_⟩
      cases i with
      | zero => simp at e; subst e; obtain ⟨t, rfl⟩ := a; exact ⟨t, rfl⟩
      | succ i => simpa using h2 i v (by simpa using e)
theorem cr_minS (hc : X.calm = true) : CallR X (.builtin "min") (rMinS X.K) := by
  intro pins s σ H vs us Q I r h
  obtain ⟨a, xs, rfl, hs, hne, q⟩ := h
  obtain ⟨its, rv, hl, _⟩ := I.list hs
  rw [Vals.ref1 r]
  obtain ⟨hlen, hat⟩ := strs_at rv
  have pl := hl.isList
  have hlt : a < s.heap.objs.size := by obtain ⟨_, e, _⟩ := pl; exact Heap.lt_size e
  refine call_min_walk (wpAny_pyIter_list pl ⟨_, _, _, _, _, _, _, rfl, Walks.list (A := X.A.in1) (I.ok.hd hc) _ a (Nat.ne_of_lt hlt) its.toArray, ⟨⟨_, Heap.get?_push_size _ rfl, rfl, rfl⟩, pl.push _⟩, fun b hb => ?_, by rw [List.size_toArray, hlen]; exact hne,
    cmpOf_strs (fun i => xs.getD i "") (fun i v e => hat i v (by rw [← List.getElem?_toArray]; exact e)), fun v h' tk hP hk => ?_⟩)
  · show b < (s.heap.push _).objs.size
    rw [Heap.size_push]
    simp only [List.mem_cons, List.not_mem_nil, or_false] at hb
    rcases hb with rfl | rfl
    · exact Nat.lt_succ_self _
    · exact Nat.lt_succ_of_lt hlt
  · rw [List.size_toArray, hlen, List.getElem?_toArray] at hP
    obtain ⟨t, rfl⟩ := hat _ v hP
    obtain ⟨g1, g2⟩ := argBest_min (fun i => xs.getD i "") (xs.length - 1)
    have hi : argBest (fun i j => decide (((xs.getD i "").cps.toList) < (xs.getD j "").cps.toList)) (xs.length - 1) < xs.length := by omega
    refine ⟨.str _, H, I.kept fun b o e => hk b o (fun hm => ?_) (Heap.get?_push_of_some _ e), ⟨t, rfl⟩, q _ (by rw [List.getD_eq_getElem?_getD, List.getElem?_eq_getElem hi]; exact List.getElem_mem hi) fun y hy => ?_⟩
    · simp only [List.mem_cons, List.not_mem_nil, or_false] at hm
      subst hm
      exact Nat.lt_irrefl _ (Heap.lt_size e)
    · obtain ⟨j, hj, rfl⟩ := List.mem_iff_getElem.mp hy
      have := g2 j (by omega)
      rw [List.getD_eq_getElem?_getD (i := j), List.getElem?_eq_getElem hj] at this
      exact this
def rMinA (K : PySem.W.Frag) : List V → Hp → VK → Prop := fun vs H Q => rMinS K vs H Q ∨ rMin K vs H Q
theorem cr_minA (hc : X.calm = true) : CallR X (.builtin "min") (rMinA X.K) := (cr_minS hc).or (cr_min hc)
def dMin : List PyData → Option PyData
  | [.list ds] => match strsOf ds with
    | some xs => (minS xs).map PyData.str
    | none => (intsOf ds).bind fun ns => (minI ns).map PyData.int
  | _ => none
theorem ref_min (K : PySem.W.Frag) : RefA K (rMinA K) dMin := by
  intro F H vs ds d Q s b e k
  unfold dMin at e
  split at e
  · rename_i es
    split at e
    · rename_i xs q
      have hq := strsOf_eq q
      subst hq
      obtain ⟨v, rfl, rr⟩ := b.one
      obtain ⟨p, ys, rfl, q1, q2⟩ := rr.list s
      have e2 := q2.inj_strs
      have so := q2.sok
      subst e2
      cases qm : minS xs with
      | none => rw [qm] at e; cases e
      | some m =>
        rw [qm] at e
        cases e
        refine .inl ⟨p, xs, rfl, .inl q1, ?_, fun m' hm hle => ?_⟩
        · cases xs with
          | nil => cases qm
          | cons _ _ => simp
        · have := minS_unique hm hle
          rw [qm] at this
          cases this
          exact k _ F H (.refl s) (.str _ (so _ hm))
    · cases q : intsOf es with
      | none => rw [q] at e; cases e
      | some ns =>
        rw [q] at e
        cases ns with
        | nil => cases e
        | cons x r =>
          cases e
          have hq := intsOf_eq q
          subst hq
          obtain ⟨v, rfl, rr⟩ := b.one
          obtain ⟨p, ys, rfl, q1, q2⟩ := rr.list s
          have e2 := q2.inj_ints
          subst e2
          refine .inr ⟨p, x :: r, rfl, .inl q1, by simp, fun m hm hle => ?_⟩
          obtain ⟨h1, h2⟩ := foldl_min r x
          have e3 := Int.le_antisymm (hle _ h1) (h2 m hm)
          rw [e3]
          exact k _ F H (.refl s) (.int _)
  · cases e
end
end DL
namespace DL
open PySem PySem.Spec L2 PyProof.Rows
/-! ## len(set(texts)) -/
/-- how many unlike texts stand among the first so many -/
def dcN (xs : List Str) : Nat → Nat
  | 0 => 0
  | i + 1 => if ((xs.take i).any (· == xs.getD i Str.empty)) = true then dcN xs i else dcN xs i + 1
theorem dcN_le (xs : List Str) : ∀ i, dcN xs i ≤ i
  | 0 => Nat.le_refl _
  | i + 1 => by
    have := dcN_le xs i
    unfold dcN
    split <;> omega
section
variable {prog : Program} {w : World} {A : Around} {R : Result → Shared → Prop} {I : Addr} {fp wr : List Addr} {G : Array GenState → Array GenState → Prop} {n : Nat} {P : Nat → Value → Prop} {St : Nat → Shared → Prop}
theorem setLoop (W : WalksS prog w A.in1 I fp wr G n P St) (T : Addr) (hT : T ∉ fp) (xs : List Str) (hsz : xs.length = n) (hb : n + 1 < scanBound) (hval : ∀ i v, P i v → ∃ t, v = .str (xs.getD i Str.empty) t) :
    ∀ (k i : Nat) (s : Shared), n - i = k → i ≤ n → St i s → s.heap.SetOf (PySem.strKind prog w) T (fun y => (xs.take i).any (· == y)) (dcN xs i) →
      (∀ s', Moved (T :: wr) G s s' → s'.heap.SetOf (PySem.strKind prog w) T (fun y => (xs.take n).any (· == y)) (dcN xs n) → R (.ok (.ret .none)) s') →
      codeAny (model prog w) A (.builtin "set.update.loop" ⟨[.ref T, .ref I], []⟩) R s := by
  have hw : T ∉ wr := fun h => hT (W.sub _ h)
  have more : ∀ b ∈ wr, b ∈ T :: wr := fun b hb => List.mem_cons_of_mem _ hb
  intro k
  induction k with
  | zero =>
    intro i s hk hi hst hS hR
    obtain rfl : i = n := by omega
    refine codeAny_builtin F.entry_set_update_loop ?_
    rw [Around.under_plainId F.plain_set_update_loop _]
    show wpAny _ A.in1 (pyNext (.ref I) >>= _) _ _ s
    refine wpAny_bind (W.done s _ _ hst fun s' hm => wpAny_pure (hR s' (hm.mono more) ?_))
    obtain ⟨o, es, ep, t, ho, rest⟩ := hS
    exact ⟨o, es, ep, t, hm.heap T _ hw ho, rest⟩
  | succ k ih =>
    intro i s hk hi hst hS hR
    have hlt : i < n := by omega
    refine codeAny_builtin F.entry_set_update_loop ?_
    rw [Around.under_plainId F.plain_set_update_loop _]
    show wpAny _ A.in1 (pyNext (.ref I) >>= _) _ _ s
    refine wpAny_bind (W.item i s _ _ hlt hst fun v s' hP hst' hm => ?_)
    obtain ⟨t, rfl⟩ := hval i v hP
    have hS' : s'.heap.SetOf (PySem.strKind prog w) T (fun y => (xs.take i).any (· == y)) (dcN xs i) := by
      obtain ⟨o, es, ep, tb, ho, rest⟩ := hS
      exact ⟨o, es, ep, tb, hm.heap T _ hw ho, rest⟩
    have dl := dcN_le xs i
    show wpAny _ A.in1 (holding [Value.str (xs.getD i Str.empty) t] (setAdd T (.str (xs.getD i Str.empty) t)) >>= _) _ _ s'
    refine wpAny_bind (wpAny_holding ?_)
    unfold setAdd
    refine wpAny_holding (wpAny_bind ((PySem.strKind prog w).pyHash (k := xs.getD i Str.empty) (strKind_is _ _ _ _) ?_))
    refine wpAny_setAddHashed_of (knd := PySem.strKind prog w) (s := { s' with toks := s'.toks + 1 }) (strKind_is _ _ _ _) rfl hS' (by omega) fun h' same hS2 => ?_
    have hS3 : h'.SetOf (PySem.strKind prog w) T (fun y => (xs.take (i + 1)).any (· == y)) (dcN xs (i + 1)) := by
      refine SetOf_congr hS2 (fun y => ?_) (by simp only [dcN])
      have hi : i < xs.length := by omega
      have e : xs.getD i Str.empty = xs[i] := by rw [List.getD_eq_getElem?_getD, List.getElem?_eq_getElem hi]; rfl
      rw [e, List.take_add_one, List.getElem?_eq_getElem hi]
      simp only [Option.toList_some, List.any_append, List.any_cons, List.any_nil, Bool.or_false]
      congr 1
      by_cases q : y = xs[i]
      · rw [q]; simp
      · rw [decide_eq_false q]; exact (beq_eq_false_iff_ne.mpr fun z => q z.symm).symm
    refine wpAny_pure ⟨plainId_quiet F.plain_set_update_loop _, ih (i + 1) _ (by omega) hlt (W.frame _ s' _ _ hst' (Nat.le_succ _) fun b hb o e => (same.2 b (fun z => hT (z ▸ hb))).trans e) hS3 fun s2 hm2 hS4 => ?_⟩
    exact hR s2 (Moved.trans W.gtrans ((hm.mono more).then_heap (Nat.le_succ _) fun b o hb e => (same.2 b (fun z => hb (z ▸ List.mem_cons_self))).trans e) hm2) hS4
end
section
variable {prog : Program} {w : World} {A : Around} {E : Value → Shared → Prop} {s : Shared}
theorem call_setS {l : Addr} {items : Array Value} {xs : List Str} {Q : Value → Shared → Prop} (hh : A.handled = none) (hl : s.heap.IsList l items) (hi : StrsAre items.toList xs) (hb : xs.length + 1 < scanBound)
    (h : ∀ (h' : Heap) (tk : Nat), h'.SetOf (PySem.strKind prog w) s.heap.objs.size (fun y => xs.any (· == y)) (dcN xs xs.length) → (∀ b o, s.heap.get? b = some o → h'.get? b = some o) → Q (.ref s.heap.objs.size) { s with heap := h', toks := tk }) :
    wpAny (model prog w) A (call (.type "set") [.ref l]) Q E s := by
  have hsz : xs.length = items.size := by rw [← StrsAre.len_eq hi, Array.length_toList]
  obtain ⟨c, tl, hmro⟩ := PySem.F.called_set.mro
  have a1 := PySem.F.called_set.made
  have a2 := PySem.F.called_set.sub
  refine wpAny_call (codeAny_of_tree ?_)
  show wpAny _ _ (callAny (.type "set") _) _ _ _
  refine wpAny_pure ⟨Code.quiet_builtin _ (by decide +kernel), codeAny_builtin PySem.F.entry_type_call ?_⟩
  rw [Around.under_plain (weight_type_call_type "set" [.ref l] []) rfl]
  have a3 := PySem.F.called_set.notType
  have a4 := PySem.F.called_set.canCreate
  have a5 := PySem.F.typeCall_set_1 (.ref l)
  repeat (any_goals (first | assumption | wp_step))
  refine codeAny_mono (code_set_new_1 (.ref l) (E := E) (Q₁ := fun obj s₁ => ∃ led : Bool, obj = .ref s.heap.objs.size ∧ s₁ = { s with heap := s.heap.push ⟨.type "set", none, .set #[] 0 (.fresh 0 0 led), #[]⟩ }) fun led => ⟨led, rfl, rfl⟩) fun r s₁ hr => ?_
  cases r with
  | error e => exact hr
  | ok fl =>
    cases fl with
    | ret obj =>
      obtain ⟨led, rfl, rfl⟩ := hr
      have g0 : (s.heap.push ⟨.type "set", none, .set #[] 0 (.fresh 0 0 led), #[]⟩).get? s.heap.objs.size = some ⟨.type "set", none, .set #[] 0 (.fresh 0 0 led), #[]⟩ := Heap.get?_push_size _ rfl
      have hT : Shared.TypeIs { s with heap := s.heap.push ⟨.type "set", none, .set #[] 0 (.fresh 0 0 led), #[]⟩ } (.ref s.heap.objs.size) "set" := ⟨_, g0, rfl⟩
      have b1 := PySem.F.called_set.init.lookup
      have b2 := PySem.F.called_set.init.bind (.ref s.heap.objs.size)
      repeat (any_goals (first | assumption | wp_step))
      refine codeAny_mono (codeAny_call_builtin (R := wants (fun r s₂ => r = .none ∧ ∃ h' tk, s₂ = { s with heap := h', toks := tk } ∧ h'.SetOf (PySem.strKind prog w) s.heap.objs.size (fun y => xs.any (· == y)) (dcN xs xs.length) ∧ (∀ b o, s.heap.get? b = some o → h'.get? b = some o)) E)
        PySem.F.called_set.init.plain PySem.F.entry_set_init (check_set_init_1 hT ?_)) fun r₂ s₂ hr₂ => ?_
      · obtain ⟨ol, hol, hcl, nl, hdl⟩ := hl
        obtain ⟨ocls, odict, odata, oslots⟩ := ol
        simp only at hcl hdl
        subst hcl; subst hdl
        have hol' : (s.heap.push ⟨.type "set", none, .set #[] 0 (.fresh 0 0 led), #[]⟩).get? l = some ⟨.type "list", odict, .seq items nl, oslots⟩ := Heap.get?_push_of_some _ hol
        have c1 := PySem.F.sub_list_set
        have c2 := PySem.F.sub_list_frozenset
        have c3 : (Value.type "list" == Value.type "dict") = false := by decide
        have pl : (s.heap.push ⟨.type "set", none, .set #[] 0 (.fresh 0 0 led), #[]⟩).IsList l items := ⟨_, hol', rfl, nl, rfl⟩
        unfold Builtin.«set.__init__» noKeywords Builtin.Frozenset.updateFrom
        generalize hPI : pyIter = PI
        wp_walk
        subst hPI
        refine wpAny_pyIter_list pl (wpAny_bind (wpAny_runValue ?_))
        have ll : l < s.heap.objs.size := Heap.lt_size hol
        have z1 : (s.heap.push ⟨.type "set", none, .set #[] 0 (.fresh 0 0 led), #[]⟩).objs.size = s.heap.objs.size + 1 := Heap.size_push ..
        refine setLoop ((Walks.list (by simp [hh]) _ l (by rw [z1]; exact Nat.ne_of_lt (Nat.lt_succ_of_lt ll)) items).toS) s.heap.objs.size (by rw [z1]; simp; exact Nat.ne_of_gt ll) xs hsz (by rw [← hsz]; exact hb)
          (fun i v hv => SS.strs_at hi i v (by rw [Array.getElem?_toList]; exact hv)) (items.size - 0) 0 _ (by omega) (Nat.zero_le _) ⟨⟨_, Heap.get?_push_size _ rfl, rfl, rfl⟩, pl.push _⟩ ?_ ?_
        · have g1 := Heap.get?_push_of_some (⟨.type "list_iterator", none, .fields #[.ref l, .int 0 0], #[]⟩ : Obj) g0
          exact SetOf_congr ((setObjOf_fresh (knd := PySem.strKind prog w) led).setOf g1 (by unfold scanBound; omega)) (fun _ => rfl) rfl
        · intro s' hm hS'
          obtain ⟨h', g', d', tk', os'⟩ := s'
          obtain rfl : g' = s.gens := hm.gens
          obtain rfl : d' = s.drawn := hm.drawn
          obtain rfl : os' = s.os := hm.os
          rw [← hsz, List.take_of_length_le (Nat.le_refl _)] at hS'
          refine wpAny_pure (wpAny_pure ⟨rfl, h', tk', rfl, hS', fun b o e => ?_⟩)
          have lb := Heap.lt_size e
          refine hm.heap b o (fun hm => ?_) (Heap.get?_push_of_some _ (Heap.get?_push_of_some _ e))
          rw [z1] at hm
          simp only [List.mem_cons, List.not_mem_nil, or_false] at hm
          rcases hm with rfl | rfl
          · exact Nat.lt_irrefl _ lb
          · exact Nat.lt_irrefl _ (Nat.lt_of_succ_lt lb)
      · cases r₂ with
        | error e => exact hr₂
        | ok fl₂ =>
          cases fl₂ with
          | ret r =>
            obtain ⟨rfl, h', tk, rfl, hS', hk'⟩ := hr₂
            repeat (any_goals (first | assumption | wp_step))
            exact h _ _ hS' hk'
          | _ => exact hr₂.elim
    | _ => exact hr.elim
end
section
variable {X : Cx} {W : WX} {a : Expr} {fa : DEx} {p p2 q pos : Pos}
def tLenSetS (K : PySem.W.Frag) (ta : TE) : TE := fun σ H Q => ta σ H fun x H1 => ∃ (l : Addr) (xs : List Str), x = .ref l ∧ SqL K H1 l (xs.map V.str) ∧ xs.length + 1 < scanBound ∧ Q (.int (dcN xs xs.length)) H1
theorem pe_lenSetS {ta : TE} (hc : X.calm = true) (hg : Gl X "len") (hm : X.mg "len" = none) (hg2 : Gl X "set") (hm2 : X.mg "set" = none) (ha : PE X a ta)
    (na : starEach [a] X.env = (false, eval a X.env) :: starEach [] X.env := by rfl) : PE X (.Call (.Name "len" p) [.Call (.Name "set" p2) [a] [] q] [] pos) (tLenSetS X.K ta) := by
  refine ⟨fun pins s σ H Q I h => ?_⟩
  refine Call_ (ld_blt I hg hm boot_len (callWith_builtin1 (args_cons ?_ rfl) rfl rfl))
  refine Call_ (ld_blt I hg2 hm2 boot_set (callWith_type1 (args_cons (thn (ha.run pins s σ H _ I h) fun v s1 ⟨x, H1, I1, r1, q1⟩ => args_nil ?_) na) na rfl))
  obtain ⟨l, xs, rfl, hq, h1, q1⟩ := q1
  cases r1
  obtain ⟨its, r, pl, hz⟩ := I1.list hq
  refine call_setS (I1.ok.hd hc) pl.isList (by simpa using strsAre_of r) h1 fun h' tk hS hk => args_nil ?_
  obtain ⟨o, es, ep, t, ho, hex, hd, _, _, _, hf, hn⟩ := hS
  have dl := dcN_le xs xs.length
  have I2 : Inv X pins σ H1 { s1 with heap := h', toks := tk } := I1.kept hk
  refine call_len_set ho hex hd hf (by rw [hn]; unfold scanBound at h1; omega) ⟨.int (dcN xs xs.length), H1, I2.tok _, ⟨_, by rw [hn]⟩, q1⟩
def eLenSet (fa : DEx) : DEx := fun ρ => (fa ρ).bind fun d => match d with
  | .list ds => match strsOf ds with
    | some xs => if xs.length < 4000 then .ok (.int (dcN xs xs.length)) else .bad
    | none => .bad
  | _ => .bad
theorem de_lenSet (hc : X.calm = true) (hm : X.mg "len" = none) (hm2 : X.mg "set" = none) (ha : DB X W a fa) (hg : Gl X "len" := by rfl) (hg2 : Gl X "set" := by rfl)
    (na : starEach [a] X.env = (false, eval a X.env) :: starEach [] X.env := by rfl) : DE X W (.Call (.Name "len" p) [.Call (.Name "set" p2) [a] [] q] [] pos) (eLenSet fa) :=
  PE.imp (pe_lenSetS hc hg hm hg2 hm2 ha na) fun σ H Q ⟨ρ, F, G, o⟩ => expb_then G o fun F' H' d v G' o' r => by
    cases d with
    | list ds =>
      simp only at o'
      split at o'
      · rename_i xs qx
        split at o'
        · rename_i hl
          have e0 := strsOf_eq qx
          subst e0
          obtain ⟨l, ys, rfl, q1, q2⟩ := r.list G'.sub
          have e2 := q2.inj_strs
          subst e2
          exact ⟨l, xs, rfl, .inl q1, by unfold scanBound; omega, o'.self G'.sub (.int _)⟩
        · exact o'.elim
      · exact o'.elim
    | _ => exact o'.elim
end
end DL
namespace DL
open PySem PySem.Spec L2 PyProof.Rows
/-! ## sorted of texts, however many; of the signs of a text; list(text) -/
section
variable {prog : Program} {w : World} {A : Around} {E : Value → Shared → Prop} {s : Shared}
/-- sorted(v), v collected to texts -/
theorem sorted_col {v : Value} {Q : Value → Shared → Prop}
    (hcol : wpAny (model prog w) A.in1 (collect v) (fun vs s1 => vs.length ≤ sizeLine ∧ ∃ ss, StrsAre vs ss ∧ ∀ (out : Array Value) (ss' : List Str) (h' : Heap) (ep : Nat), StrsAre out.toList ss' → ss'.Perm ss → sortedS ss' = true → (∀ b o, s1.heap.get? b = some o → h'.get? b = some o) →
      h'.get? s1.heap.objs.size = some (seqObj "list" out ep) → Q (.ref s1.heap.objs.size) { s1 with heap := h' }) E s) : wpAny (model prog w) A (call (.builtin "sorted") [v]) Q E s := by
  refine Calls.call_function_entry kind_sorted plain_sorted entry_sorted (args_sorted1 _) ?_
  unfold Builtin.«sorted»
  refine wpAny_bind (m := checkCount "sorted" 1 1 _) (wpAny_pure (wpAny_bind (wpAny_mono hcol ?_ fun _ _ e => e)))
  rintro vs s1 ⟨hL, ss, hS, h⟩
  refine wpAny_bind (wpAny_newList ?_)
  show wpAny (model prog w) A.in1 _ _ E { s1 with heap := s1.heap.push (seqObj "list" vs.toArray 0) }
  have hoL : (s1.heap.push (seqObj "list" vs.toArray 0)).get? s1.heap.objs.size = some (seqObj "list" vs.toArray 0) := Heap.get?_push_size _ rfl
  refine wpAny_bind (wpAny_holding (wpAny_call_entry slot_list_sort ⟨_, hoL, rfl⟩ entry_list_sort (list_sort_treeKAny (s := { s1 with heap := s1.heap.push (seqObj "list" vs.toArray 0) }) strKind_oneLt hoL hS.keysOf (fun v₁ v₂ rest e => keyKind_strs (by rw [← e]; exact hS)) hL fun st' hp hs => ⟨_, rfl, ?_⟩) (args_list_sort _)))
  obtain ⟨ss', h1, h2, h3⟩ := sorted_out_str hS hp hs
  refine wpAny_pure ⟨_, rfl, ?_⟩
  generalize ((arrOf st').map fun q => q.2) = out at h1 ⊢
  have lt : s1.heap.objs.size < (s1.heap.push (seqObj "list" vs.toArray 0)).objs.size := by rw [Heap.size_push]; exact Nat.lt_succ_self _
  obtain ⟨e1, g1⟩ : ∃ e1, ((s1.heap.push (seqObj "list" vs.toArray 0)).update s1.heap.objs.size (Obj.mapSeq fun _ => #[])).get? s1.heap.objs.size = some (seqObj "list" #[] e1) := ⟨_, get?_update_seq hoL (fun _ => #[])⟩
  have g3 := Heap.get?_push_of_some (seqObj "list" #[] 0) (Heap.get?_push_of_some (seqObj "tuple" vs.toArray 0) g1)
  obtain ⟨e4, g4⟩ : ∃ e4, (sortedHeap (s1.heap.push (seqObj "list" vs.toArray 0)) s1.heap.objs.size vs out).get? s1.heap.objs.size = some (seqObj "list" out e4) := ⟨_, get?_update_seq g3 (fun _ => out)⟩
  refine h out ss' _ e4 h1 h2 h3 (fun b o e => ?_) g4
  have lb := Heap.lt_size e
  have nb : s1.heap.objs.size ≠ b := fun z => Nat.lt_irrefl _ (z ▸ lb)
  unfold sortedHeap
  rw [Heap.get?_update_other _ _ nb]
  exact Heap.get?_push_of_some _ (Heap.get?_push_of_some _ ((Heap.get?_update_other _ _ nb).trans (Heap.get?_push_of_some _ e)))
end
def sgn (z : Str) : List Str := z.cps.toList.map fun c => ⟨#[c]⟩
theorem signs_sgn (z : Str) : signs z = (sgn z).map PyData.str := by unfold signs sgn; rw [List.map_map]; rfl
theorem sgn_ok {z : Str} (h : SOk z) : ∀ x ∈ sgn z, SOk x := fun x hx => by
  obtain ⟨c, hc, rfl⟩ := List.mem_map.mp hx
  exact h.sign hc
theorem signs_vals {x : Str} {acc : Array Value} (h : ItemsOf (SignAt x) acc x.cps.size) : Vals ((sgn x).map V.str) acc.toList := by
  obtain ⟨h1, h2⟩ := h
  have key : ∀ (l : List Nat) (a : List Value), l.length = a.length → (∀ (j : Nat) v, a[j]? = some v → ∃ c u, l[j]? = some c ∧ v = .str ⟨#[c]⟩ u) → Vals ((l.map fun c => (⟨#[c]⟩ : Str)).map V.str) a := by
    intro l
    induction l with
    | nil =>
      intro a hl _
      cases a with
      | nil => exact .nil
      | cons _ _ => simp at hl
    | cons c l ih =>
      intro a hl ha
      cases a with
      | nil => simp at hl
      | cons v a =>
        refine .cons ?_ (ih a (by simpa using hl) fun j w e => by simpa using ha (j + 1) w (by simpa using e))
        obtain ⟨c', u, e1, e2⟩ := ha 0 v rfl
        simp at e1
        subst e1
        exact ⟨u, e2⟩
  refine key x.cps.toList acc.toList (by rw [Array.length_toList, Array.length_toList, h1]) fun j v e => ?_
  obtain ⟨c, u, e1, e2⟩ := h2 j v (by rw [← Array.getElem?_toList]; exact e)
  exact ⟨c, u, by rw [Array.getElem?_toList]; exact e1, e2⟩
section
variable {X : Cx}
def rSortA (K : PySem.W.Frag) : List V → Hp → VK → Prop := fun vs H Q => ∃ xs : List Str, ((∃ a, vs = [V.ref a] ∧ SqL K H a (xs.map V.str)) ∨ ∃ z : Str, vs = [.str z] ∧ z.length ≤ sizeLine ∧ xs = sgn z) ∧ xs.length ≤ sizeLine ∧
  ∀ (ys : List Str) (p : Addr), ys.Perm xs → sortedS ys = true → H p = none → Q (.ref p) (upd H p (.lst (ys.map V.str)))
theorem cr_sortA (hc : X.calm = true) : CallR X (.builtin "sorted") (rSortA X.K) := by
  intro pins s σ H vs us Q I r h
  obtain ⟨xs, (⟨a, rfl, hs⟩ | ⟨z, rfl, hz, rfl⟩), hl, q⟩ := h
  · obtain ⟨its, rv, pl, _⟩ := I.list hs
    rw [Vals.ref1 r]
    have h0 := rv.length
    rw [List.length_map] at h0
    refine sorted_strsAny pl.isList rv.strs (by rw [← h0]; exact hl) fun out ys h1 h2 h3 => ?_
    obtain ⟨ep, he⟩ := sortedAll_at s.heap its out
    exact ⟨.ref _, upd H (s.heap.objs.size + 1) (.lst (ys.map V.str)), I.laid (t' := s.toks) (fun _ _ => sortedAll_old) (Nat.le_succ _) ⟨by rw [List.length_map, h2.length_eq]; exact hl, out.toList, ep, vals_of_strs h1, he⟩, rfl, q ys _ h2 h3 (I.hok.fresh (Nat.le_succ _))⟩
  · cases r with
    | cons ra rb =>
      cases rb
      obtain ⟨t, rfl⟩ := ra
      refine sorted_col (wpAny_collect_str (A := X.A.in1) (I.ok.hd hc) z t (fun s' acc hk e1 e2 e3 ia => ?_) hz)
      have vv := signs_vals ia
      refine ⟨by rw [← vv.length, List.length_map]; exact hl, sgn z, strsAre_of vv, fun out ss' h' ep a1 a2 a3 a4 a5 => ?_⟩
      obtain ⟨h1, g1, d1, t1, o1⟩ := s'
      simp only at e1 e2 e3 a4 a5 hk
      subst e1; subst e2; subst e3
      have I1 : Inv X pins σ H { s with heap := h1, toks := t1 } := I.kept hk
      exact ⟨.ref _, upd H h1.objs.size (.lst (ss'.map V.str)), I1.laid (t' := t1) a4 (Nat.le_refl _) ⟨by rw [List.length_map, a2.length_eq]; exact hl, out.toList, ep, vals_of_strs a1, a5⟩, rfl, q ss' _ a2 a3 (I1.hok.fresh (Nat.le_refl _))⟩
/-- list(text), list(list), list(tuple) -/
def rListA (K : PySem.W.Frag) : List V → Hp → VK → Prop := fun xs H Q => (∃ p ys, xs = [.ref p] ∧ (SqL K H p ys ∨ SqT K H p ys) ∧ ∀ l, H l = none → Q (.ref l) (upd H l (.lst ys))) ∨ ∃ z : Str, xs = [.str z] ∧ z.length ≤ sizeLine ∧ ∀ l, H l = none → Q (.ref l) (upd H l (.lst ((sgn z).map V.str)))
theorem cr_listS (hc : X.calm = true) : CallR X (.type "list") (fun xs H Q => ∃ z : Str, xs = [.str z] ∧ z.length ≤ sizeLine ∧ ∀ l, H l = none → Q (.ref l) (upd H l (.lst ((sgn z).map V.str)))) := by
  intro pins s σ H vs us Q I r h
  obtain ⟨z, rfl, hz, q⟩ := h
  cases r with
  | cons ra rb =>
    cases rb
    obtain ⟨t, rfl⟩ := ra
    refine call_list_str (I.ok.hd hc) z t (fun h' tk acc c hk hS ia => ?_) hz
    have vv := signs_vals ia
    have hl : ((sgn z).map V.str).length ≤ sizeLine := by rw [List.length_map]; unfold sgn; rw [List.length_map, Array.length_toList]; exact hz
    exact ⟨.ref _, upd H s.heap.objs.size (.lst ((sgn z).map V.str)), I.laid (t' := tk) hk (Nat.le_refl _) ⟨hl, acc.toList, c, vv, hS⟩, rfl, q _ (I.hok.fresh (Nat.le_refl _))⟩
theorem cr_listA (hc : X.calm = true) : CallR X (.type "list") (rListA X.K) := call_list_of.or (cr_listS hc)
end
def dSortA : List PyData → Option (List PyData)
  | [.list ds] => (strsOf ds).bind fun xs => if xs.length ≤ sizeLine then some ((sortS xs).map PyData.str) else none
  | [.str z] => some ((sortS (sgn z)).map PyData.str)
  | _ => none
theorem ref_sortA (K : PySem.W.Frag) : RefN K (rSortA K) dSortA := by
  intro F H vs ds d Q s b e k
  unfold dSortA at e
  have fin : ∀ (xs zs : List Str) (l : Addr), zs.Perm xs → sortedS zs = true → (∀ x ∈ xs, SOk x) → H l = none → d = (sortS xs).map PyData.str → Q (.ref l) (upd H l (.lst (zs.map V.str))) := by
    intro xs zs l hp hs so hl ed
    have e3 : zs = sortS xs := by
      refine sortS_unique hp ?_
      cases zs with
      | nil => exact .nil
      | cons z r => exact rising_pw hs
    subst e3
    subst ed
    exact k l _ F _ (Grow.open s hl) hl (s.free hl) upd_same (RpAll.strs _ fun x hx => so x (hp.mem_iff.mp hx))
  split at e
  · rename_i es
    cases q : strsOf es with
    | none => rw [q] at e; cases e
    | some xs =>
      rw [q] at e
      dsimp only [Option.bind] at e
      split at e
      · cases e
        rename_i hl
        have hq := strsOf_eq q
        subst hq
        obtain ⟨v, rfl, r⟩ := b.one
        obtain ⟨p, ys, rfl, q1, q2⟩ := r.list s
        have e2 := q2.inj_strs
        have so := q2.sok
        subst e2
        exact ⟨xs, .inl ⟨p, rfl, .inl q1⟩, hl, fun zs l hp hs hn => fin xs zs l hp hs so hn rfl⟩
      · cases e
  · rename_i z
    cases e
    obtain ⟨v, rfl, r⟩ := b.one
    rw [r.str]
    have so := r.sok
    exact ⟨sgn z, .inr ⟨z, rfl, so.len, rfl⟩, by unfold sgn; rw [List.length_map, Array.length_toList]; exact so.len, fun zs l hp hs hn => fin _ zs l hp hs (sgn_ok so) hn rfl⟩
  · cases e
def dListA : List PyData → Option (List PyData)
  | [.list ds] => some ds
  | [.tuple ds] => some ds
  | [.str z] => some (signs z)
  | _ => none
theorem ref_listA (K : PySem.W.Frag) : RefN K (rListA K) dListA := by
  intro F H vs ds d Q s b e k
  unfold dListA at e
  split at e <;> cases e
  · obtain ⟨v, rfl, r⟩ := b.one
    obtain ⟨p, xs, rfl, q1, q2⟩ := r.list s
    exact .inl ⟨p, xs, rfl, .inl (.inl q1), fun l hl => k l xs F _ (Grow.open s hl) hl (s.free hl) upd_same q2⟩
  · obtain ⟨v, rfl, r⟩ := b.one
    obtain ⟨p, xs, rfl, q1, q2⟩ := r.tup s
    exact .inl ⟨p, xs, rfl, .inr q1, fun l hl => k l xs F _ (Grow.open s hl) hl (s.free hl) upd_same q2⟩
  · rename_i z
    obtain ⟨v, rfl, r⟩ := b.one
    rw [r.str]
    refine .inr ⟨z, rfl, r.sok.len, fun l hl => k l _ F _ (Grow.open s hl) hl (s.free hl) upd_same ?_⟩
    rw [signs_sgn]
    exact RpAll.strs _ (sgn_ok r.sok)
end DL
/-! enumerate of a text -/
namespace DL
open PySem PySem.Spec PyProof.Rows L2
def sgV (z : Str) : List V := z.cps.toList.map fun c => V.str ⟨#[c]⟩
def IteS (z : Str) : It :=
  ⟨fun i _ => i < (sgV z).length, fun i H v H' => ∃ T x, v = .ref T ∧ H T = none ∧ H' = upd H T (.tup [.int (i : Nat), x]) ∧ (sgV z)[i]? = some x, fun i _ => i = (sgV z).length⟩
theorem turn_enumS {P : Program} {w : World} {K : PySem.W.Frag} {elts : List Expr} {kk : Nat} {tpos : Pos} (z : Str) (e it : Addr) :
    Turn P w K (.Tuple elts kk tpos) (IteS z) [e, it] e (fun i h => (∃ old, IsEnum h e it ((i : Nat) : Int) old) ∧ (SK.txt z).it it i h ∧ e ≠ it) where
  mem := by simp
  obj := fun i h st b hb => by
    obtain ⟨⟨old, he⟩, h1, _⟩ := st
    have e' : b = e ∨ b = it := by simpa using hb
    rcases e' with q | q
    · rw [q]; exact ⟨_, he, fun v q => nomatch q⟩
    · rw [q]; exact SK.it_obj h1
  keep := fun i h h' st k => by
    obtain ⟨⟨old, he⟩, hi, hne⟩ := st
    exact ⟨⟨old, k e (by simp) _ he⟩, SK.it_at hi fun o q => k it (by simp) o q, hne⟩
  item := by
    intro X hP hw hK hc i pins s σ H E I hf st hg
    subst hP hw hK
    obtain ⟨⟨old, he⟩, hit, hne⟩ := st
    have hh : X.A.in1.handled = none := I.ok.hd hc
    obtain ⟨m1, P1, St1, D1, st1, e1, r1, g1⟩ := src_draws I hh (k := .txt z) (xs := sgV z) rfl hit (fun a ha => nomatch ha)
    have hel : e < s.heap.objs.size := Heap.lt_size he
    have hil : it < s.heap.objs.size := by obtain ⟨_, q, _⟩ := SK.it_obj hit; exact Heap.lt_size q
    have hg : i < (sgV z).length := hg
    refine wpAny_pyNext_enum_itemD D1 he st1 (by omega) hne (by simpa [SK.ad] using hne) fun u h' tk y1 ho hit' hT hsz hk => ?_
    obtain ⟨x, hx, ru⟩ := r1 i u y1
    refine ⟨_, rfl, wpAny_letOwnedTupleGo_enum (s := { s with heap := h', toks := tk + 1 }) ho fun h'' he' sb => ?_⟩
    have hT2 : h''.get? s.heap.objs.size = some { cls := .type "tuple", data := .seq #[.int i tk, u] } := (sb.2 _ (Nat.ne_of_gt hel)).trans hT
    have new : ObjOk X.prog X.w (upd H s.heap.objs.size (.tup [.int (i : Nat), x])) h'' s.heap.objs.size (.tup [.int (i : Nat), x]) :=
      ⟨by show 2 ≤ sizeLine; decide, [.int i tk, u], .cons ⟨_, rfl⟩ (.cons ru .nil), ⟨_, hT2, rfl, _, rfl⟩⟩
    have I1 : Inv X pins σ (upd H s.heap.objs.size (.tup [.int (i : Nat), x])) { s with heap := h'', toks := tk + 1 } :=
      I.turnedNew (t' := tk + 1) (ch := [e, it]) (fun b ob hb q => (sb.2 b (fun q' => hb (by simp [q']))).trans (hk b ob (fun q' => hb (by simp [q'])) (fun q' => hb (by simp [q'])) q)) hf (Nat.le_refl _) new
    refine ⟨.ref s.heap.objs.size, _, I1, rfl, ⟨_, x, rfl, I.hok.fresh (Nat.le_refl _), rfl, hx⟩, ⟨⟨u, ?_⟩, SK.it_at (g1 _ _ hit') fun o q => (sb.2 it (Ne.symm hne)).trans q, hne⟩, fun b hb => ?_⟩
    · rw [show ((i + 1 : Nat) : Int) = (i : Int) + 1 by omega]; exact he'
    · have hb' : b < s.heap.objs.size := by
        have e' : b = e ∨ b = it := by simpa using hb
        rcases e' with q | q
        · rw [q]; exact hel
        · rw [q]; exact hil
      rw [upd_ne (Nat.ne_of_lt hb')]
      exact (hf b hb).1
  done := by
    intro X hP hw hK hc i pins s σ H E I hf st hg
    subst hP hw hK
    obtain ⟨⟨old, he⟩, hit, hne⟩ := st
    have hh : X.A.in1.handled = none := I.ok.hd hc
    obtain ⟨m1, P1, St1, D1, st1, e1, r1, g1⟩ := src_draws I hh (k := .txt z) (xs := sgV z) rfl hit (fun a ha => nomatch ha)
    have hg : i = (sgV z).length := hg
    obtain ⟨f0, f1, f2, f3, f4, f5⟩ := hf it (by simp)
    exact wpAny_pyNext_enum_endD D1 he (by rw [e1, ← hg]; exact st1) fun h' eb => ⟨rfl, I.turned (t' := s.toks) (fun b o hb q => eb b o hb q) f0 f1 f3 f4 f5⟩
  self := fun A i s Q E st h => let ⟨⟨_, he⟩, _⟩ := st; wpAny_pyIter_enum he h
def iEnumS (ta : TA) : TI := fun σ H R => ta σ H fun vs H1 => ∃ z : Str, vs = [.str z] ∧ R (IteS z) H1
theorem pi_enumS {X : Cx} {e : Expr} {ta : TA} {p pos tpos : Pos} {elts : List Expr} {kk : Nat} (hg : Gl X "enumerate") (hm : X.mg "enumerate" = none) (ha : PA X [e] ta) (hs : starEach [e] X.env = [(false, eval e X.env)] := by rfl) :
    PI X (.Tuple elts kk tpos) (.Call (.Name "enumerate" p) [e] [] pos) (iEnumS ta) := by
  refine ⟨fun pins s σ H R I h => ?_⟩
  refine Call_ (ld_blt I hg hm boot_enumerate (PyProof.Rows.callWith_type1 (thn (ha.run pos pins s σ H _ I h) fun us s1 ⟨vs, H1, I1, r1, q1⟩ => ?_) hs rfl))
  obtain ⟨z, ex, q⟩ := q1
  subst ex
  cases r1 with
  | cons r rr =>
    cases rr
    obtain ⟨t, rfl⟩ := r
    refine call_enumerate_str fun h' he hit hsz hk => wpAny_pyIter_enum he ?_
    have I2 : Inv X pins σ H1 { s1 with heap := h' } := I1.kept (t' := s1.toks) hk
    refine ⟨s1.heap.objs.size + 1, [s1.heap.objs.size + 1, s1.heap.objs.size], _, _, H1, rfl, I2, turn_enumS z (s1.heap.objs.size + 1) s1.heap.objs.size, ⟨⟨.none, he⟩, ⟨t, hit⟩, Nat.succ_ne_self _⟩, fun b hb => ?_, q⟩
    have e' : b = s1.heap.objs.size + 1 ∨ b = s1.heap.objs.size := by simpa using hb
    have hle : s1.heap.objs.size ≤ b := by
      rcases e' with q | q
      · rw [q]; exact Nat.le_add_right _ _
      · rw [q]; exact Nat.le_refl _
    exact I1.fpOk hle (I1.hok.fresh hle)
theorem walk_enumS {z : Str} : Walk (IteS z) (sgV z).length (fun _ => True) (YPair (fun i => some (.int (i : Nat))) (fun i => (sgV z)[i]?)) :=
  ⟨fun i _ hi _ => hi, fun _ _ => rfl, fun i H v H' _ _ y => by
    obtain ⟨T, x, h1, h2, h3, h4⟩ := y
    exact ⟨T, .int (i : Nat), x, h1, h2, h3, rfl, h4⟩⟩
section
variable {X : Cx} {W : WX} {pos : Pos}
def iEnS (fs : En → Rs (List PyData)) : En → Rs (List PyData) := fun ρ => (fs ρ).bind fun ds => match ds with
  | [.str z] => .ok (enumD 0 (signs z))
  | _ => .bad
theorem di_enumS {a : Expr} {fs : En → Rs (List PyData)} {p tpos : Pos} {elts : List Expr} {kk : Nat} (hm : X.mg "enumerate" = none) (ha : DA X W [a] fs) (hg : Gl X "enumerate" := by rfl) (hs : starEach [a] X.env = [(false, eval a X.env)] := by rfl) : DI X W (.Tuple elts kk tpos) (.Call (.Name "enumerate" p) [a] [] pos) (iEnS fs) :=
  PI.imp (pi_enumS hg hm ha hs) fun σ H R ⟨ρ, F, G, o⟩ => args_then (O := fun F H r => OutI X.K X.mg W σ F H r R) G o (fun _ _ _ o => o) (fun _ _ o => o) fun F' H' ds vs gr G' o' b => by
    split at o'
    · rename_i z
      cases b with
      | cons r rn =>
        cases rn
        have so := r.sok
        rw [r.inj_str]
        have t : RpAll X.K F' (sgV z) (signs z) := by
          have e1 : signs z = (sgn z).map PyData.str := signs_sgn z
          have e2 : sgV z = (sgn z).map V.str := by unfold sgV sgn; rw [List.map_map]; rfl
          rw [e1, e2]
          exact RpAll.strs _ (sgn_ok so)
        refine ⟨z, rfl, o' _ F' H' gr ⟨fun _ => True, _, by rw [enumD_length, ← t.length]; exact walk_enumS, fun _ _ => trivial, fun i F2 H2 x H3 hi s1 s2 y => ?_⟩⟩
        obtain ⟨T, x1, x2, rfl, nT, rfl, e1, e2⟩ := y
        cases e1
        obtain ⟨d, h1, h2⟩ := t.getV e2
        refine ⟨upd F2 T (.tup [.int (i : Nat), x2]), _, enumD_get 0 (signs z) i d h1, Grow.laid s2 nT, .tup (.inl (.inl upd_same)) ?_⟩
        rw [Nat.zero_add]
        exact .cons (.int _) (.cons (h2.mono (s1.trans (same_upd (s2.free nT)))) .nil)
    · exact o'.elim
end
end DL
/-! x in a list of things within things -/
namespace DL
open PySem PySem.Spec PyProof.Rows L2
def dInD : PyData → PyData → Option PyData
  | x, .list ds => if x.depth ≤ 60 then some (.bool (ds.any fun y => PyData.eqv y x)) else none
  | _, _ => none
def rInD (K : PySem.W.Frag) : R2 := fun x y H Q => ∃ d xs, Dp K H x d ∧ Dp K H y (.list xs) ∧ d.canLay0 = true ∧ PyData.canLayAll0 xs = true ∧ d.depth ≤ 60 ∧ Q (.bl (xs.any fun y => PyData.eqv y d)) H
section
variable {X : Cx}
theorem op_inD (hu : X.A.units + 64 < cLine) : OpR X (compareOp .In) (rInD X.K) := by
  intro pins s σ H x y v u Q I rx ry h
  obtain ⟨d, xs, hd, he, c1, c2, dd, q⟩ := h
  obtain ⟨as, r1⟩ := Dp.reads I d x v hd rx
  obtain ⟨bs, r2⟩ := Dp.reads I (.list xs) y u he ry
  exact SeqAt.in_list_reads r2 r1 c2 c1 (by have := Nat.min_le_right (PyData.depthAll xs) d.depth; omega) ⟨.bl _, H, I, rfl, q⟩
end
theorem ref_inD (K : PySem.W.Frag) : Ref2 K (rInD K) dInD := by
  intro F H x y dx dy d Q s bx byy e k
  unfold dInD at e
  split at e
  · split at e
    · rename_i ds hd
      cases e
      exact ⟨_, ds, bx.dp s, byy.dp s, bx.lay, byy.lay, hd, k _ F H (.refl s) (.bl _)⟩
    · cases e
  · cases e
end DL
/-! methods that give new lists; split; > of texts -/
namespace DL
open PySem PySem.Spec PyProof.Rows L2
def RefMN (K : PySem.W.Frag) (r : V → List V → Hp → VK → Prop) (g : PyData → List PyData → Option (List PyData)) : Prop :=
  ∀ (F H : Hp) x d0 vs ds d (Q : VK), Same F H → Bp K F H x d0 → BpAll K F H vs ds → g d0 ds = some d → (∀ p xs F' H', Grow F H F' H' → H p = none → F' p = none → H' p = some (.lst xs) → RpAll K F' xs d → Q (.ref p) H') → r x vs H Q
def nM (T : String) (g : PyData → List PyData → Option (List PyData)) (fo : DEx) (fs : En → Rs (List PyData)) : En → Rs (List PyData) := fun ρ => (fo ρ).bind fun o => if tyD o = T then (fs ρ).bind fun ds => .of (g o ds) else .bad
section
variable {X : Cx} {W : WX} {o e : Expr} {es : List Expr} {fo : DEx} {fs : En → Rs (List PyData)}
theorem expbN {σ : L2.St} {H : Hp} {k : PyData → Rs (List PyData)} {Q : VK} {R : VK} {ρ : En} {F : Hp} {fa : DEx} (G : Good X.K F H σ ρ) (o : OutN X.K X.mg W σ F H ((fa ρ).bind k) Q)
    (hk : ∀ F' H' d v, Grow F H F' H' → Good X.K F' H' σ ρ → OutN X.K X.mg W σ F H (k d) Q → Bp X.K F' H' v d → R v H') : tB X.K X.mg W fa σ H R := by
  refine ⟨ρ, F, G, ?_⟩
  cases q : fa ρ with
  | bad => rw [q] at o; exact o
  | ex c => rw [q] at o; exact o
  | ok b =>
    rw [q] at o
    intro v F1 H1 g1 r1
    exact hk F1 H1 b v g1 (G.grow g1) o r1
theorem dn_m {T id : String} {name : Str} {apos cpos : Pos} {r : V → List V → Hp → VK → Prop} {g : PyData → List PyData → Option (List PyData)} (hT : T = "str" ∨ T = "list") (pa : PlainAttrs T) (slot : Slot T name id) (hty : typeOf (.builtin id) = pure (.type "method_descriptor")) (hm : MtR X id r) (hr : RefMN X.K r g) (ho : DB X W o fo) (ha : DAB X W (e :: es) fs)
    (hbase : attributeBase o name X.env (eval o X.env) = eval o X.env := by rfl)
    (hfew : ((backTo cpos (starEach (e :: es) X.env)).all (fun x => !x.1) && (backToKw cpos (keywordEach [] X.env)).all (fun x => x.1.isSome)
      && decide ((e :: es).length + ([] : List Keyword).length + (if ([] : List Keyword).isEmpty then 0 else 1) < 30)) = true := by rfl)
    (hline : (apos.endLine == cpos.line) = true := by rfl) (hs : starEach (e :: es) X.env = (false, eval e X.env) :: starEach es X.env := by rfl) (hplain : (backTo cpos (starEach es X.env)).any (·.1) = false := by rfl) :
    DN X W (.Call (.Attribute o name apos) (e :: es) [] cpos) (nM T g fo fs) :=
  PE.imp (pe_bm pa slot hty hm ho ha hbase hfew hline hs hplain) fun σ H Q ⟨ρ, F, G, o⟩ => expbN G o fun F' H' d v g1 G' o' rv => by
    by_cases hd : tyD d = T
    · rw [if_pos hd] at o'
      refine ⟨tyV_of G'.sub rv hT hd, ?_⟩
      refine argsb_then (O := fun _ H2 r => Same H H2 ∧ OutN X.K X.mg W σ F H r Q) G' ⟨g1.h, o'⟩ (fun _ _ c o => fun C H2 s m => o.2 C H2 (o.1.trans s) m) (fun _ _ o => o.2) fun F2 H2 ds vs g2 G2 o2 b => ?_
      have o2 := o2.2
      cases q : g d ds with
      | none => rw [q] at o2; exact o2.elim
      | some z =>
        rw [q] at o2
        exact hr F2 H2 v d vs ds z Q g2.sub (rv.mono g2) b q fun p xs F3 H3 g3 n1 n2 h3 r3 => o2 p xs F3 H3 ((g1.trans g2).trans g3) ((g1.trans g2).h.free n1) n2 h3 r3
    · rw [if_neg hd] at o'; exact o'.elim
end
def dSplit : PyData → List PyData → Option (List PyData)
  | .str a, [.str b] => if (decide (b.length ≠ 0) && (decide (a.length + 2 ≤ sizeLine) && (Txt.split a b).all sokB)) = true then some ((Txt.split a b).map PyData.str) else none
  | _, _ => none
theorem ref_split (K : PySem.W.Frag) : RefMN K (fun x xs H Q => ∃ a b, x = .str a ∧ xs = [.str b] ∧ (b.length == 0) = false ∧ a.length + 2 ≤ sizeLine ∧ rNewStrs (Txt.split a b) H Q) dSplit := by
  intro F H x d0 vs ds d Q s bx bb e k
  unfold dSplit at e
  split at e
  · rename_i a b
    split at e
    · rename_i hc
      cases e
      rw [Bool.and_eq_true, Bool.and_eq_true] at hc
      obtain ⟨h1, h2, h3⟩ := hc
      obtain ⟨v, rfl, rb⟩ := bb.one
      refine ⟨a, b, bx.str, by rw [rb.str], ?_, of_decide_eq_true h2, fun p hp => ?_⟩
      · have := of_decide_eq_true h1
        exact beq_eq_false_iff_ne.mpr this
      · refine k p _ F _ (Grow.open s hp) hp (s.free hp) upd_same (RpAll.strs _ fun y hy => ?_)
        have := List.all_eq_true.mp h3 y hy
        exact SOk.dec this
    · cases e
  · cases e
def dGtA : PyData → PyData → Option PyData
  | .int i, .int j => some (.bool (decide (j < i)))
  | .str a, .str b => some (.bool (decide (b.cps.toList < a.cps.toList)))
  | _, _ => none
def rGtA : R2 := fun x y H Q => rI0 (fun i j => .bl (decide (j < i))) x y H Q ∨ ∃ i j, x = .str i ∧ y = .str j ∧ Q (.bl (decide (j.cps.toList < i.cps.toList))) H
theorem op_gtA {X : Cx} : OpR X (compareOp .Gt) rGtA := op_gt.or op_gt_str
theorem ref_gtA (K : PySem.W.Frag) : Ref2 K rGtA dGtA := by
  intro F H x y dx dy d Q s bx byy e k
  unfold dGtA at e
  split at e
  · cases e
    exact .inl ⟨_, _, bx.int, byy.int, k _ F H (.refl s) (.bl _)⟩
  · cases e
    exact .inr ⟨_, _, bx.str, byy.str, k _ F H (.refl s) (.bl _)⟩
  · cases e
end DL
namespace DL
open PySem PySem.Spec L2
/-! ## new lists that others hand out, and what is appended to them -/
mutual
def noL : PyData → Bool
  | .list _ => false
  | .dict _ => false
  | .tuple ds => noLs ds
  | _ => true
def noLs : List PyData → Bool
  | [] => true
  | d :: r => noL d && noLs r
end
/-- the heap without its lists -/
def tupsOf (F : Hp) : Hp := fun b => match F b with
  | some (.tup xs) => some (.tup xs)
  | some (.frz o (.tup xs)) => some (.frz o (.tup xs))
  | _ => none
theorem tupsOf_same (F : Hp) : Same (tupsOf F) F := fun b u e => by
  unfold tupsOf at e
  split at e
  · rename_i h; rw [h]; exact e
  · rename_i h; rw [h]; exact e
  · cases e
theorem tupsOf_tup {F : Hp} {a : Addr} {xs : List V} (h : Rd F a (.tup xs)) : Rd (tupsOf F) a (.tup xs) := by
  rcases h with h | ⟨o, h⟩
  · left; unfold tupsOf; rw [h]
  · right; refine ⟨o, ?_⟩; unfold tupsOf; rw [h]
theorem tupsOf_lst {F : Hp} {a : Addr} {xs : List V} (h : Rd (tupsOf F) a (.lst xs)) : False := by
  rcases h with h | ⟨o, h⟩
  · unfold tupsOf at h; split at h <;> cases h
  · unfold tupsOf at h; split at h <;> cases h
mutual
theorem Rp.noL {K : PySem.W.Frag} {F : Hp} : ∀ {v : V} {d : D}, Rp K F v d → noL d = true → Rp K (tupsOf F) v d
  | _, _, .non, _ => .non
  | _, _, .bl b, _ => .bl b
  | _, _, .int i, _ => .int i
  | _, _, .str x h, _ => .str x h
  | _, _, .lst h t, e => by unfold DL.noL at e; cases e
  | _, _, .tup h t, e => by
    unfold DL.noL at e
    refine .tup ?_ (RpAll.noLs t e)
    rcases h with h | h
    · exact .inl (tupsOf_tup h)
    · exact .inr h
theorem RpAll.noLs {K : PySem.W.Frag} {F : Hp} : ∀ {v : List V} {d : List D}, RpAll K F v d → noLs d = true → RpAll K (tupsOf F) v d
  | _, _, .nil, _ => .nil
  | _, _, .cons a b, e => by
    unfold DL.noLs at e
    rw [Bool.and_eq_true] at e
    exact .cons (Rp.noL a e.1) (RpAll.noLs b e.2)
end
def keepV : Option LV → Option LV
  | some (.fz d) => if noL d then some (.fz d) else none
  | _ => none
def keepE (ρ : En) : En := ρ.map keepV
theorem keepE_at {ρ : En} {i : Nat} {x : LV} (h : (keepE ρ)[i]? = some (some x)) : ∃ d, x = .fz d ∧ noL d = true ∧ ρ[i]? = some (some (.fz d)) := by
  unfold keepE at h
  rw [List.getElem?_map] at h
  cases q : ρ[i]? with
  | none => rw [q] at h; cases h
  | some y =>
    rw [q] at h
    have h := Option.some.inj h
    unfold keepV at h
    split at h
    · split at h
      · rename_i hn; cases h; exact ⟨_, rfl, hn, rfl⟩
      · cases h
    · cases h
theorem Good.keep {K : PySem.W.Frag} {F H : Hp} {σ : L2.St} {ρ : En} (G : Good K F H σ ρ) : Good K (tupsOf F) H σ (keepE ρ) := by
  refine ⟨(tupsOf_same F).trans G.sub, by rw [G.len]; unfold keepE; rw [List.length_map], fun i x e => ?_, fun i j x y v w a e1 e2 _ _ f1 _ _ => ?_⟩
  · obtain ⟨d, rfl, hn, e⟩ := keepE_at e
    obtain ⟨v, h1, h2⟩ := G.at_ i _ e
    exact ⟨v, h1, Rp.noL h2 hn⟩
  · obtain ⟨d, rfl, hn, e⟩ := keepE_at e1
    exact f1
theorem fresh_list {F H F1 H1 : Hp} (g : Grow (tupsOf F) H F1 H1) {p : Addr} {ys : List V} (h : Rd F1 p (.lst ys)) : H p = none ∧ H1 p = some (.lst ys) := by
  rcases h with h | ⟨o, h⟩
  · refine ⟨?_, g.sub _ _ h⟩
    cases q : H p with
    | none => rfl
    | some u =>
      cases q2 : tupsOf F p with
      | none =>
        have := g.new p u q q2
        rw [h] at this; cases this
      | some w =>
        have := g.f _ _ q2
        rw [h] at this
        cases this
        exact (tupsOf_lst (.inl q2)).elim
  · exact (tupsOf_lst (.inr ⟨o, g.nz _ _ _ h⟩)).elim
theorem Good.forgetV {K : PySem.W.Frag} {F H : Hp} {σ : L2.St} {ρ : En} (i : Nat) (w : Option V) (G : Good K F H σ ρ) : Good K F H (σ.set i w) (ρ.set i none) := by
  have key : ∀ (j : Nat) (x : LV), (ρ.set i none)[j]? = some (some x) → j ≠ i ∧ ρ[j]? = some (some x) := fun j x e => by
    by_cases hj : j = i
    · subst hj
      obtain ⟨e1, _⟩ := get_set_eq e
      cases e1
    · rw [List.getElem?_set_ne (Ne.symm hj)] at e
      exact ⟨hj, e⟩
  refine ⟨G.sub, by simp [G.len], fun j x e => ?_, fun j k x y v w a ej ek sj sk f1 f2 ne => ?_⟩
  · obtain ⟨hj, e⟩ := key j x e
    rw [List.getElem?_set_ne (Ne.symm hj)]
    exact G.at_ j x e
  · obtain ⟨hj, ej⟩ := key j x ej
    obtain ⟨hk, ek⟩ := key k y ek
    rw [List.getElem?_set_ne (Ne.symm hj)] at sj
    rw [List.getElem?_set_ne (Ne.symm hk)] at sk
    exact G.dis j k x y v w a ej ek sj sk f1 f2 ne
section
variable {X : Cx} {W : WX} {F0 H0 : Hp} {e : Expr} {fe : DEx} {pos : Pos}
theorem GoodS.forgetV {F H : Hp} {σ : L2.St} {ρ : En} (i : Nat) (w : Option V) (G : GoodS X.K F0 H0 F H σ ρ) : GoodS X.K F0 H0 F H (σ.set i w) (ρ.set i none) := by
  refine ⟨G.gr, G.gd.forgetV i w, fun j x v a ej z f => ?_⟩
  by_cases hj : j = i
  · subst hj
    obtain ⟨e1, _⟩ := get_set_eq ej
    cases e1
  · rw [List.getElem?_set_ne (Ne.symm hj)] at ej z
    exact G.fr j x v a ej z f
def shortL (n : Nat) : PyData → Bool
  | .list es => decide (es.length + n ≤ sizeLine)
  | _ => false
/-- for x in (new lists): x.append(text) -/
def sTold (i : Nat) (fe : DEx) : DS := fun ρ => match fe (keepE ρ) with
  | .ok (.tuple ds) => if ds.all (shortL ds.length) = true ∧ i < ρ.length then .nx (ρ.set i none) else .bad
  | _ => .bad
/-- all that the loop keeps -/
structure Tld (H H' : Hp) (n : Nat) (x : V) : Prop where
  ex : ∃ p ys, x = .ref p ∧ H p = none ∧ H' p = some (.lst ys) ∧ ys.length + n ≤ sizeLine
theorem tld_all {K : PySem.W.Frag} {F H F1 H1 : Hp} (g : Grow (tupsOf F) H F1 H1) {n : Nat} : ∀ {xs : List V} {ds : List PyData}, RpAll K F1 xs ds → ds.all (shortL n) = true → ∀ x ∈ xs, Tld H H1 n x
  | _, _, .nil, _, x, hx => nomatch hx
  | _, _, .cons a b, e, x, hx => by
    rw [List.all_cons, Bool.and_eq_true] at e
    rcases List.mem_cons.mp hx with rfl | hx
    · cases a with
      | lst h t =>
        obtain ⟨h1, h2⟩ := fresh_list g h
        exact ⟨_, _, rfl, h1, h2, by rw [t.length]; exact of_decide_eq_true e.1⟩
      | _ => cases e.1
    · exact tld_all g b e.2 x hx
theorem ds_told {i : Nat} {x z : Str} {px p apos cpos epos cp : Pos} {ck} (hN : X.N.Nodup) (hp : PassesOwn (model X.prog X.w) X.A X.env X.xe) (hc : X.calm = true) (he : DE X W e fe)
    (hj : X.N[i]? = some x := by rfl) (hx : Loc X.env.scope x := by first | exact Or.inl rfl | exact Or.inr rfl) (hf : X.fn x = true ∨ X.env.scope.names.lookup x = some .local := by first | exact .inl rfl | exact .inr rfl)
    (hv : Vis X.env.scope x := by first | exact Or.inl rfl | exact Or.inr (Or.inl rfl) | exact Or.inr (Or.inr rfl)) (hd : (x == ("__debug__" : Str)) = false := by decide) (hcd : (x == ("__classdict__" : Str)) = false := by decide)
    (hbase : attributeBase (.Name x p) "append" X.env (eval (.Name x p) X.env) = eval (.Name x p) X.env := by rfl)
    (hfew : ((backTo cpos (starEach (.Constant (.str z) ck cp :: []) X.env)).all (fun x => !x.1) && (backToKw cpos (keywordEach [] X.env)).all (fun x => x.1.isSome)
      && decide ((Expr.Constant (.str z) ck cp :: []).length + ([] : List Keyword).length + (if ([] : List Keyword).isEmpty then 0 else 1) < 30)) = true := by rfl)
    (hline : (apos.endLine == cpos.line) = true := by rfl) (hs : starEach (.Constant (.str z) ck cp :: []) X.env = (false, eval (.Constant (.str z) ck cp) X.env) :: starEach [] X.env := by rfl) (hplain : (backTo cpos (starEach [] X.env)).any (·.1) = false := by rfl)
    (hsw : swapsWith (.Call (.Attribute (.Name x p) "append" apos) [.Constant (.str z) ck cp] [] cpos) none epos.line X.env = pure false := by rfl)
    (hfs : ∀ x, foldedSetIterable e X.env x = pure x := by intro _; rfl) :
    DSt X W F0 H0 (.For (.Name x px) e [.Expr (.Call (.Attribute (.Name x p) "append" apos) [.Constant (.str z) ck cp] [] cpos) epos] [] pos) (sTold i fe) :=
  PS.imp (ps_for hp hc (pi_tup he) (pg_name hN hj hx hf)
    (pss_one (ps_expr (pe_bm PySem.F.plainAttrs_list PySem.F.slot_list_append PySem.F.type_list_append mt_append (pe_var hj hv hd hcd) (pa_cons pe_str pa_nil hs) hbase hfew hline hs hplain) hsw)) hfs) fun D σ H ⟨ρ, F, G, o⟩ => by
    refine ⟨keepE ρ, tupsOf F, G.gd.keep, ?_⟩
    unfold sTold at o
    split at o
    · rename_i ds q
      split at o
      · rename_i hall
        obtain ⟨hall, hil⟩ := hall
        have his : i < σ.length := by rw [G.gd.len]; exact hil
        rw [q]
        intro v F1 H1 g r
        cases r with
        | tup hT t =>
          rename_i a xs
          have hT1 := same_sqT g.sub hT
          refine ⟨a, rfl, ⟨xs, hT1⟩, ?_⟩
          have hlen := t.length
          refine for_it (walk_tup (a := a) (xs := xs)) (fun k σ' H' => Same H H' ∧ SqT X.K H' a xs ∧ (∀ x ∈ xs, Tld H H' (xs.length - k) x) ∧ ∃ w, σ' = σ ∨ σ' = σ.set i (some w)) ⟨g.h, hT1, ?_, ⟨.non, .inl rfl⟩⟩ ?_ ?_ ?_
          · rw [Nat.sub_zero, hlen]
            exact tld_all g t hall
          · rintro k σ' H' _ ⟨_, h, _⟩
            exact h
          · rintro k y σ' H2 H' hk ⟨s1, s2, s3, w, s4⟩ hy
            obtain ⟨rfl, hy⟩ := hy
            obtain ⟨p, ys, rfl, n1, n2, n3⟩ := (s3 y (List.mem_of_getElem? hy)).ex
            have hi : i < σ'.length := by
              rcases s4 with rfl | rfl
              · exact his
              · rw [List.length_set]; exact his
            refine ⟨.ref p, List.getElem?_set_self hi, .inl ⟨rfl, ys, SqL.of n2⟩, ?_⟩
            refine ⟨p, ys, .str z, rfl, rfl, n2, by omega, ?_⟩
            have hupd : ∀ b u, H' b = some u → b ≠ p → upd H' p (.lst (ys ++ [.str z])) b = some u := fun b u hb hne => by rw [upd_ne hne]; exact hb
            refine ⟨fun b u hb => hupd b u (s1 _ _ hb) (ne_of_none hb n1), ?_, fun x hx => ?_, .ref p, ?_⟩
            · rcases s2 with (s2 | ⟨o', s2⟩) | s2
              · exact .inl (.inl (hupd _ _ s2 (fun e => by rw [e, n2] at s2; cases s2)))
              · exact .inl (.inr ⟨o', hupd _ _ s2 (fun e => by rw [e, n2] at s2; cases s2)⟩)
              · exact .inr s2
            · obtain ⟨p2, ys2, rfl, m1, m2, m3⟩ := (s3 x hx).ex
              by_cases hb : p2 = p
              · subst hb
                rw [n2] at m2; cases m2
                exact ⟨p2, _, rfl, m1, upd_same, by simp; omega⟩
              · exact ⟨p2, ys2, rfl, m1, hupd _ _ m2 hb, by omega⟩
            · right
              rcases s4 with rfl | rfl
              · rfl
              · rw [List.set_set]
          · rintro σ' H' ⟨s1, s2, s3, w, s4⟩
            have G2 := G.grow (Grow.heap G.gd.sub s1)
            refine o σ' F H' ?_
            rcases s4 with rfl | rfl
            · have h0 := G2.forgetV i σ'[i]
              rw [List.set_getElem_self] at h0
              exact h0
            · exact G2.forgetV i _
      · exact o.elim
    · exact o.elim
end
end DL
namespace DL
open PySem PySem.Spec L2 PyProof.Rows
/-! ## a comprehension whose element may raise -/
/-- the block's context, where a call may raise -/
abbrev blkE (X : Cx) (Wx : XK) (s : Shared) (H : Hp) (scope : Scope) (cenv : Env) (fp : List Addr) : Cx :=
  { X.blk s H scope cenv fp with xe := fun u s' => ∃ pins σ H' s1, Inv (X.blk s H scope cenv fp) pins σ H' s1 ∧ L2.CX X.prog X.w X.stack H' s1 Wx u s' }
theorem inv_toE {X : Cx} {Wx : XK} {s : Shared} {H : Hp} {scope : Scope} {cenv : Env} {fp : List Addr} {pins : List (Addr × Obj)} {σ : L2.St} {H' : Hp} {s1 : Shared}
    (I : Inv (X.blk s H scope cenv fp) pins σ H' s1) : Inv (blkE X Wx s H scope cenv fp) pins σ H' s1 :=
  ⟨let ok := I.ok; ⟨ok.mod, ok.kind, ok.glob, ok.blt, ok.above, ok.inj, ok.has, ok.cab, ok.hd, ok.frames, ok.stk, ok.exf, ok.bs, ok.bsz, ok.noex, ok.exfs, ok.funs, ok.frf⟩, I.os, I.bare, I.base, I.loc, I.cell, I.free, I.freeC, I.pin, I.hok, I.len⟩
theorem inv_ofE {X : Cx} {Wx : XK} {s : Shared} {H : Hp} {scope : Scope} {cenv : Env} {fp : List Addr} {pins : List (Addr × Obj)} {σ : L2.St} {H' : Hp} {s1 : Shared}
    (I : Inv (blkE X Wx s H scope cenv fp) pins σ H' s1) : Inv (X.blk s H scope cenv fp) pins σ H' s1 :=
  ⟨let ok := I.ok; ⟨ok.mod, ok.kind, ok.glob, ok.blt, ok.above, ok.inj, ok.has, ok.cab, ok.hd, ok.frames, ok.stk, ok.exf, ok.bs, ok.bsz, ok.noex, ok.exfs, ok.funs, ok.frf⟩, I.os, I.bare, I.base, I.loc, I.cell, I.free, I.freeC, I.pin, I.hok, I.len⟩
theorem passE {X : Cx} {Wx : XK} {s : Shared} {H : Hp} {scope : Scope} {cenv : Env} {fp : List Addr} (σ : L2.St) :
    PassesAt (L2.CX (blkE X Wx s H scope cenv fp).prog (blkE X Wx s H scope cenv fp).w) (blkE X Wx s H scope cenv fp) σ Wx :=
  fun pins H' s1 e s' I c => ⟨pins, σ, H', s1, inv_ofE I, c⟩
theorem funFrames_move {h h' base B : Heap} : ∀ {l : List Env}, h.FunFrames base l → (∀ L ∈ frs l, h'.get? L = h.get? L) → (∀ L ∈ frs l, B.get? L = none) → h'.FunFrames B l
  | [], _, _, _ => trivial
  | env :: l, h, hm, hn => by
    obtain ⟨hk, ⟨L, o, hf, _, ho, hd⟩, hr⟩ := h
    have hL : L ∈ frs (env :: l) := List.mem_filterMap.mpr ⟨env, List.mem_cons_self, hf⟩
    have hr' : ∀ b ∈ frs l, b ∈ frs (env :: l) := fun b hb => by
      obtain ⟨e, he, q⟩ := List.mem_filterMap.mp hb
      exact List.mem_filterMap.mpr ⟨e, List.mem_cons_of_mem _ he, q⟩
    exact ⟨hk, ⟨L, o, hf, hn L hL, (hm L hL).trans ho, hd⟩, funFrames_move hr (fun b hb => hm b (hr' b hb)) fun b hb => hn b (hr' b hb)⟩
/-- a call's exception, in flight -/
theorem flying_of_call {X : Cx} {pins : List (Addr × Obj)} {σ : L2.St} {H : Hp} {s s' : Shared} {E : XK} (I : Inv X pins σ H s) {u : Value} (c : L2.CX X.prog X.w X.stack H s E u s') :
    ∃ (a : Addr) (B : Heap) (sI : Shared) (H' : Hp) (cls : Value) (d : Option Addr), u = .ref a ∧ Inv X pins σ H' sI ∧ (∀ b o, sI.heap.get? b = some o → b ∉ frs X.stack → B.get? b = some o) ∧ sI.heap.UpToSlots s'.heap ∧
      HandSPX.FlyingZ B X.stack a (Zc cls d) s'.heap ∧ H' a = none ∧ s'.os = sI.os ∧ AllBare s'.gens ∧ E cls d H' := by
  obtain ⟨a, B, H', cls, d, rfl, fl, hok, ub, na, os, ag, hE⟩ := c
  obtain ⟨G, g1, g2⟩ := restrict s'.heap fun b => (B.get? b).isSome || decide (b ∈ frs X.stack)
  have st : B.StaysIn s'.heap := fl.1
  have gB : ∀ b o, B.get? b = some o → G.get? b = some o := fun b o e => by
    rw [g1 b (by simp [e])]
    exact st b o e
  have gF : ∀ b, b ∈ frs X.stack → G.get? b = s'.heap.get? b := fun b hb => g1 b (by simp [hb])
  have og : ∀ b o, G.get? b = some o → s'.heap.get? b = some o ∧ ((B.get? b).isSome = true ∨ b ∈ frs X.stack) := fun b o e => by
    cases q : ((B.get? b).isSome || decide (b ∈ frs X.stack)) with
    | false => rw [g2 b q] at e; cases e
    | true =>
      rw [g1 b q] at e
      exact ⟨e, by simpa [Bool.or_eq_true] using q⟩
  refine ⟨a, B, { s with heap := G, gens := s'.gens, drawn := s'.drawn, toks := s'.toks }, H', cls, d, rfl, ?_, fun b o e hb => ?_, Heap.UpToSlots.of_keeps fun b o e => (og b o e).1, fl, na, os, ag, hE⟩
  · refine I.call (ch := []) ⟨fun b o e n hb _ => gB b o (ub.keep b o e n hb), fun b o e n hb _ => ?_, fun b o e n _ => ub.free b o e n, fun b o e _ => ?_, ub.tups, ub.frzs, ub.tbls⟩ (hok.kept gB) ag (fun _ z => nomatch z)
    · obtain ⟨sl, q⟩ := ub.slot b o e hb
      exact ⟨sl, by rw [gF b hb]; exact q⟩
    · by_cases hb : b ∈ frs X.stack
      · obtain ⟨sl, q⟩ := ub.slot b o e hb
        exact ⟨_, by rw [gF b hb]; exact q⟩
      · obtain ⟨o', q⟩ := ub.there b o e hb
        exact ⟨o', gB b o' q⟩
  · obtain ⟨e', h⟩ := og b o e
    rcases h with h | h
    · obtain ⟨o', q⟩ := Option.isSome_iff_exists.mp h
      have z := st b o' q
      rw [e'] at z; cases z
      exact q
    · exact absurd h hb
section
variable {X : Cx} {W : WX}
/-- what a raise out of the block comes to -/
theorem comp_raises {pins : List (Addr × Obj)} {σ : L2.St} {H3 : Hp} {s3 : Shared} {scope : Scope} {ce : Env} {fp : List Addr} {u : Value} {s' : Shared} (hs : X.stack = X.env :: X.outer) (hf : X.env.frame = some X.env.locals) (tk : Takes X W)
    (I3 : Inv X pins σ H3 s3) (f3 : ∀ b ∈ fp, FpOk X pins H3 b) (cL : ce.locals = s3.heap.objs.size) (cf : ce.frame = X.env.frame)
    (x : (blkE X (fun cls d H => W cls d σ H) s3 H3 scope ce fp).xe u s') :
    notedBy (model X.prog X.w) X.A ce (CompFails (model X.prog X.w) X.A X.xe ce) u s' := by
  obtain ⟨pins', σ', H', s1, I1, c⟩ := x
  obtain ⟨a, B, sI, H2, cls, d, rfl, IB, nb, up, fl, na, os, ag, w⟩ := flying_of_call I1 c
  have nb : ∀ b o, sI.heap.get? b = some o → b ∉ frs X.stack → B.get? b = some o := nb
  have fl : HandSPX.FlyingZ B X.stack a (Zc cls d) s'.heap := fl
  have hfrm : X.A.frames = some (X.env :: X.outer) := by rw [I3.ok.frames, hs]
  have en : noteFrame (.ref a) ce = noteFrame (.ref a) X.env := by unfold noteFrame PySem.frameOf; rw [cf]
  show wpAny _ _ (noteFrame (.ref a) ce) _ _ s'
  rw [en]
  refine HandSPX.looks_onZ (base := B) (outer := X.outer) Zc.steady hfrm hf (by rw [← hs]; exact fl) fun h1 hd up1 => ?_
  obtain ⟨m, hn, _⟩ := IB.loc
  have hn : sI.heap.Ns ce.locals m := hn
  have hn1 : h1.Ns ce.locals m := up1.ns (up.ns hn)
  refine ⟨m, hn1, fun h' m' hn' sb => ?_⟩
  generalize hC : ce.locals = C at *
  have nC : ∀ b ∈ frs X.stack, b ≠ C := fun b hb => by
    obtain ⟨_, o, ho, _⟩ := IB.ok.funs.mem hb
    have : b < s3.heap.objs.size := Heap.lt_size ho
    rw [cL]; exact Nat.ne_of_lt this
  have hCd : ∃ o, h1.get? C = some o ∧ ∀ vs, o.data ≠ .fields vs := by
    obtain ⟨o, es, ep, ho, hda, _⟩ := hn1
    refine ⟨o, ho, fun vs z => ?_⟩
    rw [hda] at z; cases z
  obtain ⟨oC, hoC, hCf⟩ := hCd
  obtain ⟨B', b1, b2⟩ := restrict B fun b => decide (b ≠ C)
  have bB : ∀ b, b ≠ C → B'.get? b = B.get? b := fun b hb => b1 b (decide_eq_true hb)
  have bC : B'.get? C = none := b2 C (by simp)
  have bn : ∀ b, B.get? b = none → B'.get? b = none := fun b e => by
    by_cases hb : b = C
    · rw [hb]; exact bC
    · rw [bB b hb]; exact e
  obtain ⟨k1, k2, k3, oe, vs, T, oT, ts, he, hz, hde, hv1, hnT, hTe, hT, hdT, h3⟩ := hd
  have aC : a ≠ C := fun e => by rw [e, hoC] at he; cases he; exact hCf vs hde
  have TC : T ≠ C := fun e => by rw [e, hoC] at hT; cases hT; exact hCf ts hdT
  have mv : ∀ b, b ≠ C → h'.get? b = h1.get? b := fun b hb => sb.2 b hb
  have held : HandSPX.HeldZ B' X.stack a (Zc cls d) X.env.locals h' := by
    rw [hs]
    refine ⟨fun b o e => ?_, bn a k2, funFrames_move k3 (fun L hL => mv L (nC L (by rw [hs]; exact hL))) (fun L hL => bn L ?_), oe, vs, T, oT, ts, (mv a aC).trans he, hz, hde, hv1, bn T hnT, hTe, (mv T TC).trans hT, hdT, h3⟩
    · by_cases hb : b = C
      · rw [hb, bC] at e; cases e
      · rw [bB b hb] at e
        exact (mv b hb).trans (k1 b o e)
    · exact (k3.mem hL).1
  unfold PySem.passOn
  refine wpAny_bind (wpAny_field (s := { s' with heap := h' }) ((mv a aC).trans he) hde hv1 ?_)
  rw [if_neg (show ¬ ((Value.ref T == Value.none) = true) from by simp), cf, hf]
  have fin : wpAny (model X.prog X.w) X.A (setFlight (.ref a) (some X.env.locals)) (fun _ s₂ => wpAny (model X.prog X.w) X.A (throw (.ref a) : Sem Value) (fun _ _ => False) X.xe s₂) X.xe { s' with heap := h' } := by
    refine HandSPX.setFlight_onZ (base := B') (l := X.stack) held fun h2 hd2 up2 => wpAny_throw (tk _ _ ?_)
    -- the state without it
    obtain ⟨G, g1, g2⟩ := restrict sI.heap fun b => decide (b ≠ C)
    have gG : ∀ b, b ≠ C → G.get? b = sI.heap.get? b := fun b hb => g1 b (decide_eq_true hb)
    have gC : G.get? C = none := g2 C (by simp)
    have gs : ∀ b o, G.get? b = some o → b ≠ C ∧ sI.heap.get? b = some o := fun b o e => by
      by_cases hb : b = C
      · rw [hb, gC] at e; cases e
      · exact ⟨hb, by rw [← gG b hb]; exact e⟩
    have s3C : ∀ b o, s3.heap.get? b = some o → b ≠ C := fun b o e => by
      have := Heap.lt_size e
      rw [cL]; exact Nat.ne_of_lt this
    have ub : Un (frs X.stack) fp H3 H2 s3.heap sI.heap := IB.base
    have hH2 : H2 C = none := by have := IB.free; rw [← hC]; exact this
    have hokG : HOk X.prog X.w H2 G := fun b o q => (IB.hok b o q).stay (fun c v hc r => by
        refine (gG c fun e => ?_).trans r
        rcases hc with hc | hc
        · rw [← hc, e, hH2] at q; cases q
        · rw [e, hH2] at hc; cases hc) (fun _ r => r) fun _ _ r => r
    have IX : Inv X pins σ H2 { sI with heap := G } := I3.call' (ch := fp) (s' := { sI with heap := G }) IB.os
      ⟨fun b o e n hb hx => (gG b (s3C b o e)).trans (ub.keep b o e n hb hx), fun b o e n hb hx => by
        obtain ⟨sl, q⟩ := ub.slot b o e n hb hx
        exact ⟨sl, (gG b (s3C b o e)).trans q⟩, ub.free, fun b o e hx => by
        obtain ⟨o', q⟩ := ub.there b o e hx
        exact ⟨o', (gG b (s3C b o e)).trans q⟩, ub.tups, ub.frzs, ub.tbls⟩ hokG IB.bare fun b hb => ⟨(f3 b hb).2.2.2.1, (f3 b hb).2.1, (f3 b hb).2.2.2.2.1, (f3 b hb).2.2.2.2.2⟩
    refine ⟨a, B', { sI with heap := G }, pins, σ, H2, cls, d, rfl, IX, fun b o e hb => ?_, fun b o e hnf => ?_, .inr (.inr hd2), na, os, ag, w⟩
    · obtain ⟨hbC, e⟩ := gs b o e
      exact (bB b hbC).trans (nb b o e hb)
    · obtain ⟨hbC, e⟩ := gs b o e
      obtain ⟨sl1, e1⟩ := up b o e hnf
      obtain ⟨sl2, e2⟩ := up1 b _ e1 hnf
      have e3 := (mv b hbC).trans e2
      obtain ⟨sl3, e4⟩ := up2 b _ e3 hnf
      exact ⟨sl3, e4⟩
  first
    | exact wpAny_bind (wpAny_pure (wpAny_bind fin))
    | exact wpAny_bind fin
theorem noted_ends {M : Model} {A : Around} {E : Value → Shared → Prop} {use : Option (Value → Sem Unit)} {Qf : Value → Shared → Prop} {acc : Value} {ce : Env} {u : Value} {s : Shared} (h : notedBy M A ce (CompFails M A E ce) u s) :
    notedBy M A ce (fun e s' => compEnds M A E use Qf acc ce (.error e) s') u s := by
  have k : ∀ e s', CompFails M A E ce e s' → compEnds M A E use Qf acc ce (.error e) s' := fun e s' x => by cases use <;> exact x
  exact wpAny_mono h (fun _ s'' x => k _ _ x) fun e s'' x => k _ _ x
theorem lc_coreE {pins : List (Addr × Obj)} {s : Shared} {σ : L2.St} {H : Hp} {Q : VK} {elt tg iter : Expr} {ifs : List Expr} {scope : Scope} {own : List (Str × Nat)} {pos pos' : Pos} {wi : TI} {g : TG} {tt : TT} {te : XK → TE} {use : Option (Value → Sem Unit)} {Qf : Value → Shared → Prop}
    (hst : X.stack = X.env :: X.outer) (hfr : X.env.frame = some X.env.locals) (tk : Takes X W)
    (hc : X.calm = true) (hN : X.N.Nodup) (I : Inv X pins σ H s) (hi : PI X tg iter wi) (ok : BlkOk X.N X.env.scope scope own)
    (hg : ∀ (s : Shared) (H : Hp) (C : Addr) (cl : List (Str × Addr)) (fp : List Addr), PG (X.blk s H scope (compEnvC scope cl C X.env) fp) tg g) (ht : ∀ (s : Shared) (H : Hp) (C : Addr) (cl : List (Str × Addr)) (fp : List Addr), PTs (X.blk s H scope (compEnvC scope cl C X.env) fp) ifs tt)
    (he : ∀ (Wx : XK) (s : Shared) (H : Hp) (C : Addr) (cl : List (Str × Addr)) (fp : List Addr), PE (blkE X Wx s H scope (compEnvC scope cl C X.env) fp) elt (te Wx)) (hs : ∀ x, foldedSetIterable iter X.env x = pure x)
    (h : tLc wi g tt (te fun cls d H => W cls d σ H) (own.map (·.2)) σ H Q)
    (hRR : ∀ D (ce : Env) s' m H', Inv X pins σ H' s' → Q (.ref D) H' → s'.heap.Ns ce.locals m → FpOk X pins H' ce.locals → compEnds (model X.prog X.w) X.A X.xe use Qf (.ref D) ce (.ok .next) s') :
    wpAny (model X.prog X.w) X.A (comprehension (.ListComp elt [⟨tg, iter, ifs, 0⟩] scope pos) scope X.env pos' (newList []) false (eval iter X.env) use) Qf X.xe s := by
  have hfree : ∀ y ∈ scope.names, y.2 = .free → ∃ c, X.env.cells.lookup y.1 = some c := fun y hy e => by
    rcases ok.free y hy e with k | k
    · exact I.ok.has _ (.inl k)
    · exact I.ok.has _ (.inr k)
  refine comprehension_at (use := use) rfl hs (closure_ok hfree) ok.kind (fun y hy e => by rw [ok.uniq y hy, e])
    (thn (hi.run pins s σ H _ I h) fun xv s1 hx => thn hx fun itv s2 h2 => ?_)
  obtain ⟨it, fp, tn, J, H2, e, I2, T, st2, f2, q⟩ := h2
  subst e
  refine wpAny_newObj_type (newEnv_comp ?_) (by show 0 ≤ sizeLine; decide)
  generalize hD : s2.heap.objs.size = D
  have hDn : H2 D = none := I2.hok.fresh (Nat.le_of_eq hD)
  obtain ⟨Wt, ⟨m0, w0⟩, turn⟩ := q D hDn
  -- the new list
  generalize hs3 : ({ s2 with heap := s2.heap.push { cls := .type "list", data := .seq ([] : List Value).toArray } } : Shared) = s3
  have I3 : Inv X pins σ (upd H2 D (.lst [])) s3 := by
    rw [← hs3]
    refine I2.laid (t' := s2.toks) (fun b o e => Heap.get?_push_of_some _ e) (Nat.le_of_eq hD) ⟨Nat.zero_le _, [], 0, .nil, ?_⟩
    rw [← hD]
    exact Heap.get?_push_size _ rfl
  have h3 : s3.heap = s2.heap.push { cls := .type "list", data := .seq ([] : List Value).toArray } := by rw [← hs3]
  have sz : ∀ b ∈ fp, b < s2.heap.objs.size := fun b hb => by
    obtain ⟨o, e, _⟩ := T.obj _ _ st2 b hb
    exact Heap.lt_size e
  have f3 : ∀ b ∈ fp, FpOk X pins (upd H2 D (.lst [])) b ∧ b < s3.heap.objs.size := fun b hb => by
    have hlt := sz b hb
    refine ⟨⟨?_, (f2 b hb).2⟩, by rw [h3, Heap.size_push]; exact Nat.lt_succ_of_lt hlt⟩
    rw [upd_ne (by rw [← hD]; exact Nat.ne_of_lt hlt)]
    exact (f2 b hb).1
  have st3 : tn 0 s3.heap := T.keep _ _ _ st2 fun b _ o e => by rw [h3]; exact Heap.get?_push_of_some _ e
  have I4 := block_start I3 ok hN f3
  have pg := hg s3 (upd H2 D (.lst [])) s3.heap.objs.size (cellsFrom (s3.heap.objs.size + 1) scope.names (cloFrom X.env.cells scope.names [])) fp
  have pt := ht s3 (upd H2 D (.lst [])) s3.heap.objs.size (cellsFrom (s3.heap.objs.size + 1) scope.names (cloFrom X.env.cells scope.names [])) fp
  have pe := he (fun cls d H => W cls d σ H) s3 (upd H2 D (.lst [])) s3.heap.objs.size (cellsFrom (s3.heap.objs.size + 1) scope.names (cloFrom X.env.cells scope.names [])) fp
  show codeAny _ _ (.compStart (.ListComp elt [⟨tg, iter, ifs, 0⟩] scope pos) 0 (.ref it) (.ref D) (compEnvC scope (cellsFrom (s3.heap.objs.size + 1) scope.names (cloFrom X.env.cells scope.names [])) s3.heap.objs.size X.env)) (compEnds (model X.prog X.w) X.A X.xe use Qf (.ref D) (compEnvC scope (cellsFrom (s3.heap.objs.size + 1) scope.names (cloFrom X.env.cells scope.names [])) s3.heap.objs.size X.env)) { s3 with heap := pushCells (s3.heap.push { cls := .type "dict", data := .dict #[] }) scope.names }
  have nfp : ∀ b ∈ fp, (upd H2 D (.lst [])) b = none := fun b hb => (f3 b hb).1.1
  generalize hce : compEnvC scope (cellsFrom (s3.heap.objs.size + 1) scope.names (cloFrom X.env.cells scope.names [])) s3.heap.objs.size X.env = ce at I4 pg pt pe ⊢
  have cL : ce.locals = s3.heap.objs.size := by subst hce; rfl
  have cf : ce.frame = X.env.frame := by subst hce; rfl
  generalize hH3 : upd H2 D (.lst []) = H3 at I3 I4 pg pt pe w0 nfp f3
  generalize hs4 : ({ s3 with heap := pushCells (s3.heap.push { cls := .type "dict", data := .dict #[] }) scope.names } : Shared) = s4 at I4 ⊢
  have st4 : tn 0 s4.heap := T.keep _ _ _ st3 fun b _ o e => by rw [← hs4]; exact pushCells_keeps _ _ _ _ (Heap.get?_push_of_some _ e)
  have stat : ∀ {σ' : L2.St} {H' : Hp} {s' : Shared}, Inv (X.blk s3 H3 scope ce fp) [] σ' H' s' → (∀ b ∈ fp, H' b = none) → ∀ b ∈ fp, FpOk (X.blk s3 H3 scope ce fp) [] H' b := fun {σ' H' s'} I' hn b hb =>
    ⟨hn b hb, (I'.ok.exf b hb).1, I'.ok.exfs b hb, .inl hb, fun x c e => (I'.ok.exf b hb).2 x c e, fun p hp => absurd (show p ∈ ([] : List (Addr × Obj)) ++ [] from hp) (by simp)⟩
  have loop : codeAny (model X.prog X.w) X.A (.compLoop (.ListComp elt [⟨tg, iter, ifs, 0⟩] scope pos) 0 (.ref it) (.ref D) ce) (compEnds (model X.prog X.w) X.A X.xe use Qf (.ref D) ce) s4 := by
    refine compLoop_any (fun n s' => ∃ i H', Inv (X.blk s3 H3 scope ce fp) [] (wipe σ (own.map (·.2))) H' s' ∧ tn i s'.heap ∧ (∀ b ∈ fp, H' b = none) ∧ Wt i n H') ?_ m0 ⟨0, H3, I4, st4, nfp, w0⟩
    rintro n s5 ⟨i, H5, I5, st5, n5, w5⟩
    rcases turn i n H5 w5 with ⟨stop, qq⟩ | ⟨go, Nx, hNx, step⟩
    · have td := T.done (X.blk s3 H3 scope ce fp) rfl rfl rfl hc i [] s5 _ H5 (fun _ _ => False) I5 (stat I5 n5) st5 stop
      refine thnF td fun r s6 ⟨hr, I6⟩ => ?_
      subst hr
      -- back in the def's context
      have I7 : Inv X pins σ H5 s6 := I3.call' (ch := fp) I6.os I6.base I6.hok I6.bare fun b hb => ⟨(f3 b hb).1.2.2.2.1, (f3 b hb).1.2.1, (f3 b hb).1.2.2.2.2.1, (f3 b hb).1.2.2.2.2.2⟩
      have nC : H5 s3.heap.objs.size = none := by
        have z : H5 ce.locals = none := I6.free
        rw [cL] at z
        exact z
      obtain ⟨m, hn, _⟩ := I6.loc
      have hn : s6.heap.Ns ce.locals m := hn
      exact hRR D ce s6 m H5 I7 qq hn (by rw [cL]; exact I3.fpOk (Nat.le_refl _) nC)
    · have ti := T.item (X.blk s3 H3 scope ce fp) rfl rfl rfl hc i [] s5 _ H5 (fun _ _ => False) I5 (stat I5 n5) st5 go
      refine thnF ti fun r s6 ⟨u, hr, h6⟩ => ?_
      subst hr
      refine thnF h6 fun _ s7 ⟨x, H7, I7, r7, y7, st7, n7⟩ => ?_
      have I7' := I7.pinned (stat I7 n7) (T.obj _ _ st7)
      refine thnF (pg.run _ s7 _ H7 x u _ I7' r7 (step x H7 y7)) fun _ s8 ⟨σ8, H8, I8, hw8, q8⟩ => ?_
      refine thnF (pt.run _ s8 σ8 H8 _ I8 q8) fun b s9 ⟨H9, I9, q9⟩ => ?_
      -- the turn's end
      have fin : ∀ {s' : Shared} {H' : Hp}, Inv (X.blk s3 H3 scope ce fp) ([] ++ pinsAt fp s7.heap) σ8 H' s' → Nx H' → ∃ m, m < n ∧ ∃ i H', Inv (X.blk s3 H3 scope ce fp) [] (wipe σ (own.map (·.2))) H' s' ∧ tn i s'.heap ∧ (∀ b ∈ fp, H' b = none) ∧ Wt i m H' := fun {s' H'} I' nx => by
        obtain ⟨m', hm, w'⟩ := hNx H' nx
        have pin' : ∀ b ∈ fp, ∀ o, s7.heap.get? b = some o → s'.heap.get? b = some o ∧ H' b = none := fun b hb o e =>
          let z := I'.pin (b, o) (List.mem_append_right _ (List.mem_append_right _ (mem_pinsAt hb e)))
          ⟨z.1, z.2.1⟩
        have hl : (wipe σ (own.map (·.2))).length = σ8.length := by rw [← hw8, wipe_length]
        refine ⟨m', hm, i + 1, H', (I'.unpinned (pins := [])).weak hl (fun j v e => ?_), T.keep _ _ _ st7 fun b hb o e => (pin' b hb o e).1, fun b hb => ?_, w'⟩
        · rw [← hw8] at e
          exact (wipe_some e).1
        · obtain ⟨o, e, _⟩ := T.obj _ _ st7 b hb
          exact (pin' b hb o e).2
      cases b with
      | false =>
        simp only [Bool.false_eq_true, if_false] at q9 ⊢
        exact fin I9 q9
      | true =>
        simp only [if_true] at q9 ⊢
        refine wpAny_mono (pe.run _ s9 σ8 H9 _ (inv_toE I9) q9) (fun z s10 ⟨yv, H10, I10, r10, acc, hD10, hz10, nx⟩ => ?_) (fun u s' x => noted_ends (comp_raises hst hfr tk I3 (fun b hb => (f3 b hb).1) cL cf x))
        exact app_ok (X := X.blk s3 H3 scope ce fp) (inv_ofE I10) hD10 hz10 r10 fun s11 I11 => fin I11 nx
  exact codeAny_compStart_list loop (T.self X.A 0 _ _ _ st4 loop)
end
end DL
namespace DL
open PySem PySem.Spec L2
/-! ## a comprehension whose element may raise: the layer's rules -/
section
variable {X : Cx} {W : WX} {F0 H0 : Hp} {e : Expr} {es : List Expr} {fe : DEx} {fs : En → Rs (List PyData)} {pos : Pos}
def lcE (gt : Tgt) (fe : DEx) (ρ : En) : List PyData → Rs (List PyData)
  | [] => .ok []
  | d :: r => match gt d ρ with
    | none => .bad
    | some ρ1 => (fe ρ1).bind fun y => (lcE gt fe ρ r).bind fun ys => .ok (y :: ys)
def nLcE (vs : List Nat) (fi : En → Rs (List PyData)) (gt : Tgt) (fe : DEx) : En → Rs (List PyData) := fun ρ => (fi ρ).bind fun ds => if ds.length ≤ sizeLine then lcE gt fe (wipeE ρ vs) ds else .bad
/-- the wish about exceptions inside the block -/
abbrev Wof (Wx : XK) : WX := fun cls d _ H => Wx cls d H
theorem lc_readE {vs : List Nat} {fi : En → Rs (List PyData)} {t : TG} {gt : Tgt} {σ : L2.St} {H : Hp} {Q : VK} (ht : TgtC X.K t gt vs)
    (h : tN X.K X.mg W (nLcE vs fi gt fe) σ H Q) : tLc (tI X.K X.mg W fi) t tYes (tE X.K X.mg (Wof fun cls d H => W cls d σ H) fe) vs σ H Q := by
  obtain ⟨ρ, F, G, o⟩ := h
  refine ⟨ρ, F, G, ?_⟩
  unfold nLcE at o
  cases q : fi ρ with
  | bad => rw [q] at o; exact o
  | ex c => rw [q] at o; exact o
  | ok ds =>
    rw [q] at o
    dsimp only [Rs.bind] at o
    by_cases hl : ds.length ≤ sizeLine
    · rw [if_pos hl] at o
      intro J F1 H1 gr w D hD
      obtain ⟨Gw, Y, hw, hG, hY⟩ := w.ex
      have nF : F1 D = none := gr.sub.free hD
      have Gw0 : Good X.K F1 H1 (wipe σ vs) (wipeE ρ vs) := (G.grow gr).wipe vs
      refine lc_it hw (fun i H' => ∃ F' acc done, OutN X.K X.mg W σ F H ((lcE gt fe (wipeE ρ vs) (ds.drop i)).bind fun rest => .ok (done ++ rest)) Q ∧ done.length ≤ i ∧ i ≤ ds.length ∧ Grow F1 H1 F' H' ∧ F' D = none ∧ H' D = some (.lst acc) ∧ RpAll X.K F' acc done) ?_ ?_ ?_ ?_
      · refine ⟨F1, [], [], ?_, Nat.le_refl _, Nat.zero_le _, Grow.open gr.sub hD, nF, upd_same, .nil⟩
        rw [List.drop_zero]
        cases ql : lcE gt fe (wipeE ρ vs) ds with
        | bad => rw [ql] at o; exact o
        | ex c => rw [ql] at o; exact o
        | ok ys => rw [ql] at o; exact o
      · rintro i H' _ ⟨F', acc, done, _, _, _, g, _⟩
        exact hG H' (g.f.trans g.sub)
      · rintro i x Ha H' hi ⟨Fa, acc, done, oo, e3, e4, g, fD, hDl, r⟩ y
        obtain ⟨F', d, hd, gd, rd⟩ := hY i Fa Ha x H' hi g.f g.sub y
        have ed : ds.drop i = d :: ds.drop (i + 1) := by
          rw [List.drop_eq_getElem_cons hi]
          congr 1
          have := List.getElem?_eq_getElem hi
          rw [hd] at this
          exact (Option.some.inj this).symm
        rw [ed] at oo
        unfold lcE at oo
        cases qg : gt d (wipeE ρ vs) with
        | none => rw [qg] at oo; exact oo.elim
        | some ρ1 =>
          rw [qg] at oo
          dsimp only at oo
          have G2 : Good X.K F' H' (wipe σ vs) (wipeE ρ vs) := (Gw0.grow g).grow gd
          have hD' := gd.h _ _ hDl
          have fD' := gd.new D _ hDl fD
          refine ht F' H' (wipe σ vs) (wipeE ρ vs) x d ρ1 _ G2 rd qg fun σ' G3 wp => ⟨by rw [wp, wipe_wipe σ vs vs fun _ z => z], ?_⟩
          have hle : done.length < sizeLine := by omega
          unfold tYes
          dsimp only
          rw [if_pos rfl]
          refine ⟨ρ1, F', G3, ?_⟩
          have gg := g.trans gd
          cases qe : fe ρ1 with
          | bad => rw [qe] at oo; exact oo.elim
          | ex c =>
            rw [qe] at oo
            have oo' : ∀ C H', Same H H' → X.mg c = some (.ref C) → W (.ref C) none σ H' := oo
            exact fun C H9 s9 m9 => oo' C H9 (gr.h.trans (gg.h.trans s9)) m9
          | ok y =>
            rw [qe] at oo
            intro v F4 H4 g4 r4
            have hD4 := g4.h _ _ hD'
            have fD4 := g4.new D _ hD' fD'
            have r' := r.mono (gd.f.trans g4.f)
            have g5 := gg.trans g4
            have hacc : acc.length = done.length := r.length
            refine ⟨acc, hD4, by rw [hacc]; exact hle, F4, acc ++ [v], done ++ [y], ?_, by simp; omega, hi, ⟨g5.f, fun b u z => ?_, fun b u z => ?_, g5.new, g5.nz⟩, fD4, upd_same, r'.append (.cons r4 .nil)⟩
            · cases ql : lcE gt fe (wipeE ρ vs) (ds.drop (i + 1)) with
              | bad => simp only [Rs.bind, ql] at oo ⊢; exact oo
              | ex c => simp only [Rs.bind, ql] at oo ⊢; exact oo
              | ok zs =>
                simp only [Rs.bind, ql] at oo ⊢
                rw [List.append_assoc]
                exact oo
            · rw [upd_ne (ne_of_none z hD)]; exact g5.h _ _ z
            · rw [upd_ne (ne_of_none z fD4)]; exact g5.sub _ _ z
      · rintro H' ⟨F', acc, done, oo, e3, e4, g, fD, hDl, r⟩
        rw [List.drop_length] at oo
        have oo' : ∀ p xs F' H', Grow F H F' H' → H p = none → F' p = none → H' p = some (.lst xs) → RpAll X.K F' xs (done ++ []) → Q (.ref p) H' := oo
        rw [List.append_nil] at oo'
        exact oo' D acc F' H' (gr.trans g) (gr.h.free hD) fD hDl r
    · rw [if_neg hl] at o; exact o.elim
abbrev BlkE (X : Cx) (scope : Scope) (P : XK → Cx → Prop) : Prop := ∀ (Wx : XK) (s : Shared) (H : Hp) (C : Addr) (cl : List (Str × Addr)) (fp : List Addr), P Wx (blkE X Wx s H scope (compEnvC scope cl C X.env) fp)
/-- [elt for tg in iter] -/
theorem dn_lcE {elt tg iter : Expr} {scope : Scope} {own : List (Str × Nat)} {fi : En → Rs (List PyData)} {t : TG} {gt : Tgt} (tk : Takes X W) (hc : X.calm = true) (hN : X.N.Nodup) (hi : DI X W tg iter fi) (ok : BlkOk X.N X.env.scope scope own)
    (hg : Blk X scope fun Y => PG Y tg t) (htg : TgtC X.K t gt (own.map (·.2))) (he : BlkE X scope fun Wx Y => PE Y elt (tE X.K X.mg (Wof Wx) fe)) (hst : X.stack = X.env :: X.outer := by rfl) (hfr : X.env.frame = some X.env.locals := by rfl) (hs : ∀ x, foldedSetIterable iter X.env x = pure x := by intro _; rfl) :
    DN X W (.ListComp elt [⟨tg, iter, [], 0⟩] scope pos) (nLcE (own.map (·.2)) fi gt fe) := by
  refine ⟨fun pins s σ H Q I h => ?_⟩
  rw [eval_ListComp]
  refine lc_coreE (te := fun Wx => tE X.K X.mg (Wof Wx) fe) hst hfr tk hc hN I hi ok hg (fun _ _ _ _ _ => pts_nil) he hs (lc_readE htg h) fun D ce s' m H' I' q hn f => ⟨m, hn, fun h'' sb => ?_⟩
  obtain ⟨f0, f1, f2, f3, f4, f5⟩ := f
  exact ⟨.ref D, H', I'.turned (t' := s'.toks) (fun b o hb e => (sb.2 b hb).trans e) f0 f1 f3 f4 f5, rfl, q⟩
/-- y = [elt for tg in iter] on one line -/
theorem ds_ownLcE {i : Nat} {y : Str} {py lpos : Pos} {elt tg iter : Expr} {scope : Scope} {own : List (Str × Nat)} {fi : En → Rs (List PyData)} {t : TG} {gt : Tgt} (tk : Takes X W) (hc : X.calm = true) (hN : X.N.Nodup) (hi : DI X W tg iter fi) (ok : BlkOk X.N X.env.scope scope own)
    (hg : Blk X scope fun Y => PG Y tg t) (htg : TgtC X.K t gt (own.map (·.2))) (he : BlkE X scope fun Wx Y => PE Y elt (tE X.K X.mg (Wof Wx) fe)) (hst : X.stack = X.env :: X.outer := by rfl) (hfr : X.env.frame = some X.env.locals := by rfl)
    (hy : X.N[i]? = some y := by rfl) (hyl : X.env.scope.names.lookup y = some .local := by rfl)
    (hsw : swapsWith (.ListComp elt [⟨tg, iter, [], 0⟩] scope lpos) (some (.Name y py)) pos.line X.env = pure true := by exact sw_true rfl rfl rfl (by decide +kernel)) (hs : ∀ x, foldedSetIterable iter X.env x = pure x := by intro _; rfl) :
    DSt X W F0 H0 (.Assign [.Name y py] (.ListComp elt [⟨tg, iter, [], 0⟩] scope lpos) pos) (sOwn i (nLcE (own.map (·.2)) fi gt fe)) := by
  refine ⟨fun pins s σ H D I h => ?_⟩
  rw [exec_Assign_Name_used _ _ _ _ hsw]
  refine wpAny_bind (wpAny_standAt (wpAny_bind ?_))
  show wpAny _ X.A (do let _ ← comprehension (.ListComp elt [⟨tg, iter, [], 0⟩] scope lpos) scope X.env (firstIterPos [⟨tg, iter, [], 0⟩] lpos) (newList []) false (eval iter X.env) (some (assign (.Name y py) X.env))) _ _ s
  obtain ⟨ρ, F, G, o⟩ := h
  have h : tLc (tI X.K X.mg W fi) t tYes (tE X.K X.mg (Wof fun cls d H => W cls d σ H) fe) (own.map (·.2)) σ H (fun x H1 => gName i x σ H1 D.nx) :=
    lc_readE htg (newS G o fun F' H' ds p xs g o' G' n1 n2 h r =>
      o' _ F' H' (G'.putOwn (x := .own ds) ⟨p, xs, rfl, h, n2, r⟩ (G.gr.h.free n1) fun j y hj ej oy z => by
        obtain ⟨u, hu, _⟩ := G.gd.own_at g.h ej oy z
        rw [n1] at hu; cases hu))
  refine wpAny_bind (thn (lc_coreE (te := fun Wx => tE X.K X.mg (Wof Wx) fe) (Qf := fun _ s' => SP X pins D .next s') hst hfr tk hc hN I hi ok hg (fun _ _ _ _ _ => pts_nil) he hs h fun L ce s' m H' I' q hn f => ?_) fun _ s' hq => wpAny_pure (wpAny_pure hq))
  show wpAny _ _ (assign (.Name y py) X.env (.ref L)) _ _ _
  refine wpAny_assign_Name (store_ok2 (v := V.ref L) I' hN hy (.inl hyl) rfl (fun s2 I2 ⟨a, sb, ha⟩ => ?_) (.inr hyl))
  obtain ⟨f0, f1, f2, f3, f4, f5⟩ := f
  have haC : ce.locals ≠ a := by
    rcases ha with z | z
    · rw [z]; exact f1
    · exact fun e => f4 y a z e.symm
  refine ⟨m, hn.sameBut sb haC, fun h3 sb3 => ?_⟩
  exact ⟨_, H', I2.turned (t' := s2.toks) (fun b o hb e => (sb3.2 b hb).trans e) f0 f1 f3 f4 f5, q⟩
/-- a call where what it raises is taken -/
theorem de_callP {x : Str} {k : Nat} {ps : List Str} {M : List PyData → Rs PyData} {p : Pos} (h : Ok X.prog X.w X.K X.mg X.base x k ps M) (hr : Room k X.A) (px : ∀ σ, PassesAt (L2.CX X.prog X.w) X σ (WE W σ)) (ha : DA X W (e :: es) fs) {n : Nat} (hn : ps.length = n := by rfl) (hg : Gl X x := by rfl) (hdb : (x == ("__debug__" : Str)) = false := by decide)
    (he : starEach (e :: es) X.env = (false, eval e X.env) :: starEach es X.env := by rfl) (hpl : (backTo pos (starEach es X.env)).any (·.1) = false := by rfl) : DE X W (.Call (.Name x p) (e :: es) [] pos) (eCall n M fs) := by
  subst hn
  obtain ⟨f, fd, G, hm, hk, hb⟩ := h
  refine PE.imp (pe_callS G hr hg hm hk hb px ha hdb he hpl) fun σ H Q ⟨ρ, F, Gd, o⟩ => args_then (O := fun F H r => OutE X.K X.mg W σ F H r Q) Gd o (fun _ _ _ o => o) (fun _ _ o => o) fun F' H' ds vs g G' o' r => ?_
  by_cases hl : ds.length = ps.length
  · rw [if_pos hl] at o'
    refine ⟨F', ds, g.sub, r, hl, ?_⟩
    cases q : M ds with
    | bad => rw [q] at o'; exact o'
    | ok d => rw [q] at o'; exact fun v F2 H2 g2 r2 => o' v F2 H2 (g.trans g2) r2
    | ex c => rw [q] at o'; exact fun C H2 s m => o' C H2 (g.h.trans s) m
  · rw [if_neg hl] at o'; exact o'.elim
end
end DL
namespace DL
open PySem PySem.Spec L2
section
variable {X : Cx} {W : WX} {o : Expr} {fo : DEx}
/-- text.upper() -/
def dUp : PyData → Option PyData
  | .str a => if (decide (a.length ≤ 5592405) && sokB (Txt.upper a)) = true then some (.str (Txt.upper a)) else none
  | _ => none
theorem de_upper {apos cpos : Pos} (ho : DB X W o fo) (hbase : attributeBase o "upper" X.env (eval o X.env) = eval o X.env := by rfl) (hline : (apos.endLine == cpos.line) = true := by rfl) :
    DE X W (.Call (.Attribute o "upper" apos) [] [] cpos) (e1 dUp fo) :=
  PE.imp (pe_bm0 PySem.F.plainAttrs_str PySem.F.slot_str_upper PySem.F.type_str_upper mt_upper ho hbase hline) fun σ H Q ⟨ρ, F, G, o⟩ => expb_then G o fun F' H' d v G' o' r => by
    cases d with
    | str a =>
      unfold dUp at o'
      dsimp only at o'
      split at o'
      · rename_i hc
        rw [Bool.and_eq_true] at hc
        refine ⟨by rw [r.str]; rfl, a, r.str, rfl, of_decide_eq_true hc.1, ?_⟩
        exact o'.self G'.sub (.str _ (SOk.dec hc.2))
      · exact o'.elim
    | _ => exact o'.elim
end
/-- a call in a comprehension's block, what it raises is taken -/
theorem de_callE {X : Cx} {Wx : XK} {s : Shared} {H : Hp} {scope : Scope} {cenv : Env} {fp : List Addr} {e : Expr} {es : List Expr} {fs : En → Rs (List PyData)} {pos : Pos} {x : Str} {k : Nat} {ps : List Str} {M : List PyData → Rs PyData} {p : Pos}
    (h : Ok X.prog X.w X.K X.mg X.base x k ps M) (hr : Room k X.A) (ha : DA (blkE X Wx s H scope cenv fp) (Wof Wx) (e :: es) fs) {n : Nat} (hn : ps.length = n := by rfl) (hg : Gl (blkE X Wx s H scope cenv fp) x := by rfl) (hdb : (x == ("__debug__" : Str)) = false := by decide)
    (he : starEach (e :: es) cenv = (false, eval e cenv) :: starEach es cenv := by rfl) (hpl : (backTo pos (starEach es cenv)).any (·.1) = false := by rfl) :
    PE (blkE X Wx s H scope cenv fp) (.Call (.Name x p) (e :: es) [] pos) (tE X.K X.mg (Wof Wx) (eCall n M fs)) :=
  de_callP (X := blkE X Wx s H scope cenv fp) (W := Wof Wx) h hr (fun σ => passE σ) ha hn hg hdb he hpl
end DL
namespace DL
open PySem PySem.Spec L2 PyProof.Rows
/-! ## tuple * int -/
theorem tuple_mul1 (l : Addr) (items : Array Value) (n : Nat) (dd : Option Addr) (sl : Array (Option Value)) (x : Int) (u : Tok) (c0 : (decide (x < -(2 ^ 63)) || decide (x ≥ 2 ^ 63)) = false) (c1 : (items.isEmpty || x == 1) = true) :
    Meets (Builtin.«tuple.__mul__» ⟨[.ref l, .int x u], []⟩) (fun _ R s => s.heap.get? l = some { cls := .type "tuple", dict := dd, data := .seq items n, slots := sl } ∧ R (.ok (.ret (Value.ref l))) s) :=
  .of_wp fun prog w A R s h => by
    obtain ⟨hp, g, d, tk, os⟩ := s
    obtain ⟨hl, h⟩ := h
    have f1 := AutoSeq1.idx_int
    wp_walk using wpAny_loadPart' hl
    repeat (first
      | (refine wpAny_ite_false (decide_eq_false (by rw [c0]; exact Bool.false_ne_true)) ?_; wp_walk using wpAny_loadPart' hl)
      | (refine wpAny_ite_true (decide_eq_true (by rw [c1])) ?_; wp_walk using wpAny_loadPart' hl))
    exact ⟨_, rfl, h⟩
def rRepT1 (K : PySem.W.Frag) : R2 := fun x y H Q => ∃ l xs, x = .ref l ∧ y = .int 1 ∧ SqT K H l xs ∧ Q (.ref l) H
section
variable {X : Cx}
theorem op_repT1 : OpR X (binaryOp .Mult) (rRepT1 X.K) := by
  intro pins s σ H x y v u Q I rx ry h
  obtain ⟨l, xs, rfl, rfl, hT, q⟩ := h
  cases rx
  obtain ⟨t, rfl⟩ := ry
  obtain ⟨its, r, ⟨⟨cls, dd, data, sl⟩, ho, hc, n, hd⟩, hs⟩ := I.tuple hT
  simp only at hc hd
  subst hc hd
  refine wpAny_binaryOp_repeat_ref (T := "tuple") (U := "int") (by decide) ⟨_, ho, rfl⟩ (fun s' => typeIs_int s' 1 t) noFill_tuple_mul F.fills_int_mul F.slot_int_rmul repeat_tuple F.slot_int_index.lookup
    (call_meets F.slot_int_rmul (typeIs_int s 1 t) F.entry_int_rmul (F.args_int_rmul_2 _ _) (int_rmul_tuple 1 t l its.toArray n dd sl)
      ⟨ho, rfl, ⟨_, ho, rfl⟩, call_meets F.slot_tuple_mul ⟨_, ho, rfl⟩ F.entry_tuple_mul (F.args_tuple_mul_2 _ _) (tuple_mul1 l its.toArray n dd sl 1 t (by decide) (by simp)) ⟨ho, ?_⟩⟩)
  exact ⟨.ref l, H, I, rfl, q⟩
end
def rMulT (K : PySem.W.Frag) : R2 := fun x y H Q => rRepT K x y H Q ∨ rRepT1 K x y H Q
theorem op_mulT {X : Cx} : OpR X (binaryOp .Mult) (rMulT X.K) := op_repT.or op_repT1
/-- (x,) * k, k from 1 to 1000 -/
def dMulT : PyData → PyData → Option PyData
  | .tuple ds, .int k => if 1 ≤ k ∧ k ≤ 1000 ∧ 1 ≤ ds.length ∧ ds.length ≤ 1000 then some (.tuple (List.replicate k.toNat ds).flatten) else none
  | _, _ => none
theorem ref_mulT (K : PySem.W.Frag) : Ref2 K (rMulT K) dMulT := by
  intro F H x y dx dy d Q s bx byy e k
  unfold dMulT at e
  split at e
  · rename_i ds j
    split at e
    · rename_i hh
      cases e
      obtain ⟨a, xs, rfl, r1, t1⟩ := bx.tup s
      obtain ⟨k1, k2, k3, k4⟩ := hh
      have hl := t1.length
      by_cases q : j = 1
      · subst q
        refine .inr ⟨a, xs, rfl, byy.int, r1, k _ F H (.refl s) ?_⟩
        have : (List.replicate (1 : Int).toNat ds).flatten = ds := by simp
        rw [this]
        exact bx.rp fun _ => by simp
      · refine .inl ⟨a, j, xs, rfl, byy.int, r1, fun z => by rw [z] at hl; simp at hl; omega, by omega, k2, by omega, fun p hp => ?_⟩
        exact k _ _ _ (Grow.laid s hp) (.tup (.inl (.inl upd_same)) ((t1.rep _).mono (same_upd (s.free hp))))
    · cases e
  · cases e
end DL
namespace DL
open PySem PySem.Spec L2
/-! ## text[::-1] -/
def revS (z : Str) : Str := ⟨z.cps.toList.reverse.toArray⟩
theorem slice_rev (n : Nat) : Builtin.Str.strSliceIndices none none (-1) n = (List.range n).map fun j => n - 1 - j := by
  unfold Builtin.Str.strSliceIndices PySem.sliceRange
  have hc : (if (-1 : Int) > 0 then (0 : Int) else 1) = 1 := by decide
  simp only [show ¬ ((-1 : Int) > 0) by decide, if_false]
  have e : (if ((n : Int) - 1) > (-1 : Int) then (((n : Int) - 1) - (-1) - (-1) - 1) / (-(-1)) else 0).toNat = n := by
    by_cases hn : 0 < n
    · rw [if_pos (by omega)]
      have : (((n : Int) - 1) - (-1) - (-1) - 1) / (-(-1)) = (n : Int) := by
        have h1 : -(-1 : Int) = 1 := by decide
        rw [h1, Int.ediv_one]; omega
      rw [this]; omega
    · rw [if_neg (by omega)]; omega
  rw [e]
  refine List.map_congr_left fun j hj => ?_
  have := List.mem_range.mp hj
  omega
theorem rev_pick {α : Type} : ∀ l : List α, (List.range l.length).filterMap (fun j => l[l.length - 1 - j]?) = l.reverse := by
  intro l
  have h : ∀ j ∈ List.range l.length, l[l.length - 1 - j]? = l.reverse[j]? := fun j hj => by
    have := List.mem_range.mp hj
    rw [List.getElem?_reverse this]
  have gen : ∀ (ks : List Nat), (∀ j ∈ ks, l[l.length - 1 - j]? = l.reverse[j]?) → ks.filterMap (fun j => l[l.length - 1 - j]?) = ks.filterMap (fun j => l.reverse[j]?) := by
    intro ks
    induction ks with
    | nil => intro _; rfl
    | cons k ks ih =>
      intro hk
      rw [List.filterMap_cons, List.filterMap_cons, hk k (by simp), ih fun j hj => hk j (by simp [hj])]
  rw [gen _ h]
  have := range_all l.reverse
  rw [List.length_reverse] at this
  exact this
theorem revS_eq (z : Str) : revS z = ⟨((Builtin.Str.strSliceIndices none none (-1) z.length).filterMap (z.cps[·]?)).toArray⟩ := by
  rw [slice_rev, List.filterMap_map]
  unfold revS
  have e : ((fun x => z.cps[x]?) ∘ fun j => z.length - 1 - j) = fun j => z.cps.toList[z.cps.toList.length - 1 - j]? := by
    funext j
    simp [Array.getElem?_toList, str_length]
  rw [e, str_length, rev_pick]
theorem SOk.rev {z : Str} (h : SOk z) : SOk (revS z) := by
  refine SOk.sub h ?_ fun c hc => ?_
  · rw [List.length_reverse, ← str_length]; exact h.len
  · exact List.mem_reverse.mp hc
section
variable {X : Cx} {W : WX} {a : Expr} {fa : DEx} {pos : Pos}
def tRevS (te : TE) : TE := fun σ H Q => te σ H fun x H1 => ∃ z, x = .str z ∧ z.length ≤ sizeLine ∧ Q (.str (revS z)) H1
open PyProof.Rows in
theorem pe_revS {e : Expr} {te : TE} {k : Nat} {p1 p2 p3 pos : Pos} (he : PE X e te) : PE X (.Subscript e (.Slice none none (some (.UnaryOp .USub (.Constant (.int 1) k p1) p2)) p3) pos) (tRevS te) := by
  refine ⟨fun pins s σ H Q I h => ?_⟩
  refine PyProof.Rows.Subscript_ (thn (he.run pins s σ H _ I h) fun v s1 ⟨x, H1, I1, r1, q1⟩ => ?_)
  obtain ⟨z, ex, hz, q⟩ := q1
  subst ex
  obtain ⟨t, rfl⟩ := r1
  have hk : PE X (.UnaryOp .USub (.Constant (.int 1) k p1) p2) (tUn (rU fun i => .int (-i)) (tC (.int 1))) := pe_un un_neg pe_int
  refine wpAny_Slice ?_
  rw [evalPart_none, evalPart_some]
  refine wpAny_pure (wpAny_pure (thn (hk.run pins s1 σ H1 (fun y H2 => y = .int (-1) ∧ H2 = H1) I1 ⟨1, rfl, rfl, rfl⟩) fun vs s4 ⟨y, H2, I4, r2, ey, eh⟩ => ?_))
  subst ey eh
  obtain ⟨u, rfl⟩ := r2
  have I5 : Inv X pins σ H2 { s4 with heap := s4.heap.push { cls := .type "slice", data := .fields #[.none, .none, .int (-1) u] } } := I4.kept (t' := s4.toks) fun b ob q => Heap.get?_push_of_some _ q
  show wpAny (model X.prog X.w) X.A (subscriptTail e (.Slice none none (some (.UnaryOp .USub (.Constant (.int 1) k p1) p2)) p3) (.str z t) (.ref s4.heap.objs.size)) (EP X pins σ Q) X.xe { s4 with heap := s4.heap.push { cls := .type "slice", data := .fields #[.none, .none, .int (-1) u] } }
  refine tail_any (T := "str") (typeIs_str _ _ _) F.slot_str_getitem.lookup ?_ (by with_unfolding_all rfl)
  refine wpAny_getItem_str_slice (l := none) (u := none) (st := some (-1, u)) ⟨_, Heap.get?_push_size _ rfl, rfl, rfl⟩ (by show ((-1 : Int) == 0) = false; decide) ?_
  have hl : (revS z).length ≤ sizeLine := by
    rw [str_length]
    unfold revS
    simp only [List.length_reverse]
    rw [← str_length]; exact hz
  show Made.post (if ((-1 : Int) == 1 && (Builtin.Str.strSliceIndices none none (-1) z.length).length == z.length) = true then Made.val (.str z t) else Made.str ⟨((Builtin.Str.strSliceIndices none none (-1) z.length).filterMap (z.cps[·]?)).toArray⟩) (EP X pins σ Q) _
  rw [if_neg (by simp), ← revS_eq z]
  exact ⟨hl, .str _, H2, I5.tok _, ⟨_, rfl⟩, q⟩
def dRev : PyData → Option PyData
  | .str z => some (.str (revS z))
  | _ => none
theorem de_rev {k : Nat} {p1 p2 p3 : Pos} (ha : DB X W a fa) : DE X W (.Subscript a (.Slice none none (some (.UnaryOp .USub (.Constant (.int 1) k p1) p2)) p3) pos) (e1 dRev fa) :=
  PE.imp (pe_revS ha) fun σ H Q ⟨ρ, F, G, o⟩ => expb_then G o fun F' H' d v G' o' r => by
    cases d with
    | str z => exact ⟨z, r.str, r.sok.len, o'.self G'.sub (.str _ r.sok.rev)⟩
    | _ => exact o'.elim
end
end DL
namespace DL
open PySem PySem.Spec L2 PyProof.Rows
/-! ## zip, the tuple that it handed out last still held -/
abbrev IsZipK (h : Heap) (z TI TO T : Addr) (b : Bool) : Prop :=
  h.get? z = some { cls := .type "zip", dict := none, data := .fields #[rawInt T, .bool b, .bool false, .ref TI, .ref TO], slots := #[] }
section
variable {prog : Program} {w : World} {A : Around} {E : Value → Shared → Prop} {s : Shared} {z TI TO T i1 i2 : Addr} {b : Bool} {fp1 fp2 : List Addr} {n1 n2 i : Nat} {P1 P2 : Nat → Value → Prop} {St1 St2 : Nat → Heap → Prop}
theorem owned_held {oT : Obj} {Q : Bool → Shared → Prop} (hz : IsZipK s.heap z TI TO T b) (hT : s.heap.get? T = some oT)
    (hQ : ∀ h', IsZipK h' z TI TO T true → Heap.SameBut z s.heap h' → Q false { s with heap := h' }) : wpAny (model prog w) A (Builtin.SmallTypes.ownedTupleIsFree (.ref z)) Q E s := by
  unfold Builtin.SmallTypes.ownedTupleIsFree
  refine wpAny_bind (wpAny_field hz rfl (x := rawInt T) rfl ?_)
  show wpAny _ _ (loadIfAlive ((T : Int).toNat) >>= _) _ _ s
  refine wpAny_bind (PySem.W.kdx_alive (a := (T : Int).toNat) (o := oT) (by simpa using hT) ?_)
  simp only [Option.isNone_some, Bool.false_eq_true, if_false]
  refine wpAny_bind (wpAny_field hz rfl (x := .bool b) rfl ?_)
  cases b with
  | false =>
    rw [if_pos (by decide)]
    refine wpAny_bind (wpAny_setField_rec hz (by simp) fun g0 hz0 hs0 => wpAny_pure ?_)
    exact hQ g0 hz0 hs0
  | true =>
    rw [if_neg (by decide)]
    refine wpAny_pure ?_
    exact hQ s.heap hz (Heap.SameBut.refl _ _)
theorem zipK_next_item {oT : Obj} {Q : Value → Shared → Prop} (S : ZipSep2 z TI TO i1 i2 fp1 fp2) (D1 : Draws prog w A i1 fp1 n1 P1 St1) (D2 : Draws prog w A i2 fp2 n2 P2 St2)
    (hz : IsZipK s.heap z TI TO T b) (hTI : IsTupOf2 s.heap TI (.ref i1) (.ref i2)) (hT : s.heap.get? T = some oT) (st1 : St1 i s.heap) (st2 : St2 i s.heap) (hlt1 : i < n1) (hlt2 : i < n2)
    (hQ : ∀ x1 x2 h' tk, P1 i x1 → P2 i x2 → IsZipK h' z TI TO T true → St1 (i + 1) h' → St2 (i + 1) h' → IsTupOf2 h' s.heap.objs.size x1 x2 → h'.objs.size = s.heap.objs.size + 1 →
      (∀ c o, c ≠ z → c ≠ i1 → c ≠ i2 → s.heap.get? c = some o → h'.get? c = some o) → Q (.ref s.heap.objs.size) { s with heap := h', toks := tk }) :
    wpAny (model prog w) A (Builtin.«zip.__next__» ⟨[.ref z], []⟩) (fun fin s' => ∃ v, fin = .done (.ret v) ∧ Q v s') E s := by
  obtain ⟨hp, g, d, tk0, os⟩ := s
  show wpAny _ _ (field (.ref z) 2 >>= _) _ _ _
  refine wpAny_bind (wpAny_field hz rfl (x := .bool false) rfl ?_)
  show wpAny _ _ (field (.ref z) 3 >>= _) _ _ _
  refine wpAny_bind (wpAny_field hz rfl (x := .ref TI) rfl ?_)
  refine wpAny_bind (wpAny_seqItems hTI rfl ?_)
  show wpAny _ _ (Builtin.SmallTypes.ownedTupleIsFree (.ref z) >>= _) _ _ _
  refine wpAny_bind (owned_held hz hT fun g0 hz0 hs0 => ?_)
  replace hs0 : Heap.SameBut z hp g0 := hs0
  simp only [Bool.false_eq_true, if_false]
  refine wpAny_bind ?_
  rw [← Array.forIn_toList]
  simp only [List.forIn_cons, List.forIn_nil]
  refine wpAny_bind (wpAny_bind (wpAny_holding ?_))
  show wpAny _ _ (Builtin.SmallTypes.nextOf (.ref i1) >>= _) _ _ ⟨g0, g, d, tk0, os⟩
  refine wpAny_bind (D1.item i _ _ _ hlt1 (D1.over st1 hs0 S.zf1) fun x1 p1 tk1 hx1 sn1 hp1 => wpAny_pure ?_)
  replace hp1 : Heap.SameBut i1 g0 p1 := hp1
  refine wpAny_pure ?_
  refine wpAny_bind (wpAny_bind (wpAny_holding ?_))
  show wpAny _ _ (Builtin.SmallTypes.nextOf (.ref i2) >>= _) _ _ ⟨p1, g, d, tk1, os⟩
  refine wpAny_bind (D2.item i _ _ _ hlt2 (D2.over (D2.over st2 hs0 S.zf2) hp1 S.sep1_2) fun x2 p2 tk2 hx2 sn2 hp2 => wpAny_pure ?_)
  replace hp2 : Heap.SameBut i2 p1 p2 := hp2
  refine wpAny_pure (wpAny_pure ?_)
  refine wpAny_bind (wpAny_newTuple (hsz := by show 2 ≤ sizeLine; decide) ?_)
  have hsz : p2.objs.size = hp.objs.size := by rw [hp2.1, hp1.1, hs0.1]
  have hzz : IsZipK p2 z TI TO T true := hp2.extBut _ _ S.zi2 (hp1.extBut _ _ S.zi1 hz0)
  have hj1 : St1 (i + 1) p2 := D1.over sn1 hp2 S.sep2_1
  refine wpAny_pure ⟨_, rfl, ?_⟩
  show Q (.ref p2.objs.size) ⟨p2.push { cls := .type "tuple", data := .seq #[x1, x2] }, g, d, tk2, os⟩
  rw [hsz]
  refine hQ x1 x2 _ tk2 hx1 hx2 (Heap.get?_push_of_some _ hzz) (D1.frame _ _ _ hj1 fun b hb o e => Heap.get?_push_of_some _ e) (D2.frame _ _ _ sn2 fun b hb o e => Heap.get?_push_of_some _ e) ?_ (by rw [Heap.size_push, hsz]) fun c o cz c1 c2 e => Heap.get?_push_of_some _ (hp2.extBut _ _ c2 (hp1.extBut _ _ c1 (hs0.extBut _ _ cz e)))
  show (p2.push _).get? hp.objs.size = _
  rw [← hsz]
  exact Heap.get?_push_size _ rfl
theorem zipK_next_end {oT : Obj} {Q : Fin → Shared → Prop} (S : ZipSep2 z TI TO i1 i2 fp1 fp2) (D1 : Draws prog w A i1 fp1 n1 P1 St1) (D2 : Draws prog w A i2 fp2 n2 P2 St2)
    (hz : IsZipK s.heap z TI TO T b) (hTI : IsTupOf2 s.heap TI (.ref i1) (.ref i2)) (hT : s.heap.get? T = some oT) (st1 : St1 i s.heap) (st2 : St2 i s.heap) (hle1 : i ≤ n1) (hle2 : i ≤ n2) (hend : i = n1 ∨ i = n2)
    (hE : ∀ h' tk e, (∀ c o, c ≠ z → c ≠ i1 → c ≠ i2 → s.heap.get? c = some o → h'.get? c = some o) → (∃ o, h'.get? e = some o ∧ o.cls = .type "StopIteration") → E (.ref e) { s with heap := h', toks := tk }) :
    wpAny (model prog w) A (Builtin.«zip.__next__» ⟨[.ref z], []⟩) Q E s := by
  obtain ⟨hp, g, d, tk0, os⟩ := s
  show wpAny _ _ (field (.ref z) 2 >>= _) _ _ _
  refine wpAny_bind (wpAny_field hz rfl (x := .bool false) rfl ?_)
  show wpAny _ _ (field (.ref z) 3 >>= _) _ _ _
  refine wpAny_bind (wpAny_field hz rfl (x := .ref TI) rfl ?_)
  refine wpAny_bind (wpAny_seqItems hTI rfl ?_)
  show wpAny _ _ (Builtin.SmallTypes.ownedTupleIsFree (.ref z) >>= _) _ _ _
  refine wpAny_bind (owned_held hz hT fun g0 hz0 hs0 => ?_)
  replace hs0 : Heap.SameBut z hp g0 := hs0
  simp only [Bool.false_eq_true, if_false]
  refine wpAny_bind ?_
  rw [← Array.forIn_toList]
  simp only [List.forIn_cons, List.forIn_nil]
  refine wpAny_bind (wpAny_bind (wpAny_holding ?_))
  show wpAny _ _ (Builtin.SmallTypes.nextOf (.ref i1) >>= _) _ _ ⟨g0, g, d, tk0, os⟩
  by_cases hlt1 : i < n1
  · refine wpAny_bind (D1.item i _ _ _ hlt1 (D1.over st1 hs0 S.zf1) fun x1 p1 tk1 hx1 sn1 hp1 => wpAny_pure ?_)
    replace hp1 : Heap.SameBut i1 g0 p1 := hp1
    refine wpAny_pure ?_
    refine wpAny_bind (wpAny_bind (wpAny_holding ?_))
    have hi2 : i = n2 := by omega
    show wpAny _ _ (Builtin.SmallTypes.nextOf (.ref i2) >>= _) _ _ ⟨p1, g, d, tk1, os⟩
    refine wpAny_bind (D2.done ⟨p1, g, d, tk1, os⟩ _ _ (by rw [← hi2]; exact D2.over (D2.over st2 hs0 S.zf2) hp1 S.sep1_2) fun q e hq he => ?_)
    exact hE q tk1 e (fun c o cz c1 c2 x => hq _ _ c2 (hp1.extBut _ _ c1 (hs0.extBut _ _ cz x))) he
  · have hi1 : i = n1 := by omega
    refine wpAny_bind (D1.done ⟨g0, g, d, tk0, os⟩ _ _ (by rw [← hi1]; exact D1.over st1 hs0 S.zf1) fun q e hq he => ?_)
    exact hE q tk0 e (fun c o cz c1 c2 x => hq _ _ c1 (hs0.extBut _ _ cz x)) he
theorem pyNext_zipK_item {oT : Obj} {Q : Option Value → Shared → Prop} (S : ZipSep2 z TI TO i1 i2 fp1 fp2) (D1 : Draws prog w A.in1 i1 fp1 n1 P1 St1) (D2 : Draws prog w A.in1 i2 fp2 n2 P2 St2)
    (hz : IsZipK s.heap z TI TO T b) (hTI : IsTupOf2 s.heap TI (.ref i1) (.ref i2)) (hT : s.heap.get? T = some oT) (st1 : St1 i s.heap) (st2 : St2 i s.heap) (hlt1 : i < n1) (hlt2 : i < n2)
    (hQ : ∀ x1 x2 h' tk, P1 i x1 → P2 i x2 → IsZipK h' z TI TO T true → St1 (i + 1) h' → St2 (i + 1) h' → IsTupOf2 h' s.heap.objs.size x1 x2 → h'.objs.size = s.heap.objs.size + 1 →
      (∀ c o, c ≠ z → c ≠ i1 → c ≠ i2 → s.heap.get? c = some o → h'.get? c = some o) → Q (some (.ref s.heap.objs.size)) { s with heap := h', toks := tk }) :
    wpAny (model prog w) A (pyNext (.ref z)) Q E s := by
  have hT' : s.TypeIs (.ref z) "zip" := ⟨_, hz, rfl⟩
  unfold pyNext
  exact wpAny_bind (wpAny_attempt (wpAny_callSpecial?_slot (name := Str.ofString "__next__") hT' F.slot_zip_next
    (wpAny_call_entry F.slot_zip_next hT' F.entry_zip_next
      (zipK_next_item S D1 D2 hz hTI hT st1 st2 hlt1 hlt2 fun x1 x2 h' tk y1 y2 b1 d1 d2 b5 b6 b7 => wpAny_pure (hQ x1 x2 h' tk y1 y2 b1 d1 d2 b5 b6 b7)) (F.args_zip_next_1 _))))
theorem pyNext_zipK_end {oT : Obj} {Q : Option Value → Shared → Prop} (S : ZipSep2 z TI TO i1 i2 fp1 fp2) (D1 : Draws prog w A.in1 i1 fp1 n1 P1 St1) (D2 : Draws prog w A.in1 i2 fp2 n2 P2 St2)
    (hz : IsZipK s.heap z TI TO T b) (hTI : IsTupOf2 s.heap TI (.ref i1) (.ref i2)) (hT : s.heap.get? T = some oT) (st1 : St1 i s.heap) (st2 : St2 i s.heap) (hle1 : i ≤ n1) (hle2 : i ≤ n2) (hend : i = n1 ∨ i = n2)
    (hQ : ∀ h' tk, (∀ c o, c ≠ z → c ≠ i1 → c ≠ i2 → s.heap.get? c = some o → h'.get? c = some o) → Q none { s with heap := h', toks := tk }) : wpAny (model prog w) A (pyNext (.ref z)) Q E s := by
  have hT' : s.TypeIs (.ref z) "zip" := ⟨_, hz, rfl⟩
  unfold pyNext
  refine wpAny_bind (wpAny_attempt (wpAny_callSpecial?_slot (name := Str.ofString "__next__") hT' F.slot_zip_next
    (wpAny_call_entry F.slot_zip_next hT' F.entry_zip_next (zipK_next_end S D1 D2 hz hTI hT st1 st2 hle1 hle2 hend fun h' tk e hk he => ?_) (F.args_zip_next_1 _))))
  obtain ⟨o, ho, hc⟩ := he
  refine wpAny_bind (wpAny_isInstance (T := "StopIteration") (b := true) ⟨o, ho, hc⟩ isSubtype_stop ?_)
  exact wpAny_pure (hQ _ _ hk)
end
end DL
namespace DL
open PySem PySem.Spec L2 PyProof.Rows
/-! ## a turn of zip whose tuples are kept -/
def ZSt (k1 k2 : SK) (z TI TO i1 i2 : Addr) (i : Nat) (H : Hp) (h : Heap) : Prop :=
  IsTupOf2 h TI (.ref i1) (.ref i2) ∧ (∃ x y, IsTupOf2 h TO x y) ∧ k1.it i1 i h ∧ k2.it i2 i h ∧ (IsZip h z TI TO .none ∨ ∃ T b ps, IsZipK h z TI TO T b ∧ H T = some (.tup ps))
theorem zip_step {X : Cx} {A : Around} (hh : A.in1.handled = none) {z TI TO i1 i2 : Addr} {k1 k2 : SK} {xs ys : List V} (D : ZipSep2 z TI TO i1 i2 (i1 :: k1.ad) (i2 :: k2.ad)) (n1 : ∀ a ∈ k1.ad, a ≠ i1) (n2 : ∀ a ∈ k2.ad, a ≠ i2)
    {i : Nat} {pins : List (Addr × Obj)} {s : Shared} {σ : L2.St} {H : Hp} {E : Value → Shared → Prop} (I : Inv X pins σ H s) (hf : ∀ b ∈ [z, TI, TO, i1, i2], FpOk X pins H b) (st : ZSt k1 k2 z TI TO i1 i2 i H s.heap)
    (hs1 : SrcK X.K H k1 xs) (hs2 : SrcK X.K H k2 ys) (l1 : i < xs.length) (l2 : i < ys.length) :
    wpAny (model X.prog X.w) A (pyNext (.ref z)) (fun r s1 => ∃ T x y, r = some (.ref T) ∧ H T = none ∧ Inv X pins σ (upd H T (.tup [x, y])) s1 ∧ xs[i]? = some x ∧ ys[i]? = some y ∧
      ZSt k1 k2 z TI TO i1 i2 (i + 1) (upd H T (.tup [x, y])) s1.heap ∧ ∀ b ∈ [z, TI, TO, i1, i2], b ≠ T) E s := by
  obtain ⟨hTI, ⟨x0, y0, hTO⟩, h1, h2, hz⟩ := st
  obtain ⟨m1, P1, St1, D1, st1, e1, r1, g1⟩ := src_draws I hh hs1 h1 n1
  obtain ⟨m2, P2, St2, D2, st2, e2, r2, g2⟩ := src_draws I hh hs2 h2 n2
  have hzl : z < s.heap.objs.size := by
    rcases hz with hz | ⟨T, b, ps, hz, _⟩
    · exact Heap.lt_size hz
    · exact Heap.lt_size hz
  have lts : ∀ c ∈ [z, TI, TO, i1, i2], c < s.heap.objs.size := fun c hcm => by
    have e' : c = z ∨ c = TI ∨ c = TO ∨ c = i1 ∨ c = i2 := by simpa using hcm
    rcases e' with q | q | q | q | q
    · rw [q]; exact hzl
    · rw [q]; exact Heap.lt_size hTI
    · rw [q]; exact Heap.lt_size hTO
    · rw [q]; obtain ⟨_, e1, _⟩ := SK.it_obj h1; exact Heap.lt_size e1
    · rw [q]; obtain ⟨_, e2, _⟩ := SK.it_obj h2; exact Heap.lt_size e2
  rcases hz with hz | ⟨T, b, ps, hz, hT⟩
  · refine wpAny_pyNext_zipD2_item D D1 D2 hz hTI hTO st1 st2 (by omega) (by omega) fun u u2 h' tk y1 y2 z' TO' d1 d2 hT hsz hk => ?_
    obtain ⟨x, hx, ru⟩ := r1 i u y1
    obtain ⟨y, hy, ru2⟩ := r2 i u2 y2
    have new : ObjOk X.prog X.w (upd H s.heap.objs.size (.tup [x, y])) h' s.heap.objs.size (.tup [x, y]) :=
      ⟨by show 2 ≤ sizeLine; decide, [u, u2], .cons ru (.cons ru2 .nil), ⟨_, hT, rfl, _, rfl⟩⟩
    have I1 : Inv X pins σ (upd H s.heap.objs.size (.tup [x, y])) { s with heap := h', toks := tk } :=
      I.turnedNew (t' := tk) (ch := [z, TI, TO, i1, i2]) (fun c o hb q => hk c o (fun q' => hb (by simp [q'])) (fun q' => hb (by simp [q'])) (fun q' => hb (by simp [q'])) (fun q' => hb (by simp [q'])) q) hf (Nat.le_refl _) new
    exact ⟨s.heap.objs.size, x, y, rfl, I.hok.fresh (Nat.le_refl _), I1, hx, hy, ⟨hk _ _ D.TIz D.TITO D.TIi1 D.TIi2 hTI, ⟨_, _, TO'⟩, g1 _ _ d1, g2 _ _ d2, .inr ⟨_, false, _, z', upd_same⟩⟩, fun c hcm => Nat.ne_of_lt (lts c hcm)⟩
  · obtain ⟨oT, hoT⟩ := objOk_get (I.hok T _ hT)
    refine pyNext_zipK_item D D1 D2 hz hTI hoT st1 st2 (by omega) (by omega) fun u u2 h' tk y1 y2 z' d1 d2 hTn hsz hk => ?_
    obtain ⟨x, hx, ru⟩ := r1 i u y1
    obtain ⟨y, hy, ru2⟩ := r2 i u2 y2
    have new : ObjOk X.prog X.w (upd H s.heap.objs.size (.tup [x, y])) h' s.heap.objs.size (.tup [x, y]) :=
      ⟨by show 2 ≤ sizeLine; decide, [u, u2], .cons ru (.cons ru2 .nil), ⟨_, hTn, rfl, _, rfl⟩⟩
    have I1 : Inv X pins σ (upd H s.heap.objs.size (.tup [x, y])) { s with heap := h', toks := tk } :=
      I.turnedNew (t' := tk) (ch := [z, TI, TO, i1, i2]) (fun c o hb q => hk c o (fun q' => hb (by simp [q'])) (fun q' => hb (by simp [q'])) (fun q' => hb (by simp [q'])) q) hf (Nat.le_refl _) new
    have nT : T ≠ s.heap.objs.size := Nat.ne_of_lt (Heap.lt_size hoT)
    exact ⟨s.heap.objs.size, x, y, rfl, I.hok.fresh (Nat.le_refl _), I1, hx, hy, ⟨hk _ _ D.TIz D.TIi1 D.TIi2 hTI, ⟨_, _, hk _ _ D.TOz D.Ti1 D.Ti2 hTO⟩, g1 _ _ d1, g2 _ _ d2, .inr ⟨T, true, ps, z', by rw [upd_ne nT]; exact hT⟩⟩, fun c hcm => Nat.ne_of_lt (lts c hcm)⟩
theorem zip_stop {X : Cx} {A : Around} (hh : A.in1.handled = none) {z TI TO i1 i2 : Addr} {k1 k2 : SK} {xs ys : List V} (D : ZipSep2 z TI TO i1 i2 (i1 :: k1.ad) (i2 :: k2.ad)) (n1 : ∀ a ∈ k1.ad, a ≠ i1) (n2 : ∀ a ∈ k2.ad, a ≠ i2)
    {i : Nat} {pins : List (Addr × Obj)} {s : Shared} {σ : L2.St} {H : Hp} {E : Value → Shared → Prop} (I : Inv X pins σ H s) (hf : ∀ b ∈ [z, TI, TO, i1, i2], FpOk X pins H b) (st : ZSt k1 k2 z TI TO i1 i2 i H s.heap)
    (hs1 : SrcK X.K H k1 xs) (hs2 : SrcK X.K H k2 ys) (l1 : i ≤ xs.length) (l2 : i ≤ ys.length) (l3 : i = xs.length ∨ i = ys.length) :
    wpAny (model X.prog X.w) A (pyNext (.ref z)) (fun r s1 => r = none ∧ Inv X pins σ H s1) E s := by
  obtain ⟨hTI, ⟨x0, y0, hTO⟩, h1, h2, hz⟩ := st
  obtain ⟨m1, P1, St1, D1, st1, e1, r1, g1⟩ := src_draws I hh hs1 h1 n1
  obtain ⟨m2, P2, St2, D2, st2, e2, r2, g2⟩ := src_draws I hh hs2 h2 n2
  rcases hz with hz | ⟨T, b, ps, hz, hT⟩
  · exact wpAny_pyNext_zipD2_end D D1 D2 hz hTI hTO st1 st2 (by omega) (by omega) (by omega) fun h' tk hk => ⟨rfl, I.turnedL (t' := tk) (ch := [z, TI, TO, i1, i2]) (fun c o hb q =>
      hk c o (fun q' => hb (by simp [q'])) (fun q' => hb (by simp [q'])) (fun q' => hb (by simp [q'])) (fun q' => hb (by simp [q'])) q) hf⟩
  · obtain ⟨oT, hoT⟩ := objOk_get (I.hok T _ hT)
    exact pyNext_zipK_end D D1 D2 hz hTI hoT st1 st2 (by omega) (by omega) (by omega) fun h' tk hk => ⟨rfl, I.turnedL (t' := tk) (ch := [z, TI, TO, i1, i2]) (fun c o hb q =>
      hk c o (fun q' => hb (by simp [q'])) (fun q' => hb (by simp [q'])) (fun q' => hb (by simp [q'])) q) hf⟩
end DL
namespace DL
open PySem PySem.Spec L2 PyProof.Rows
/-! ## list.extend over a zip of two tuples -/
theorem sqT_upd {K : PySem.W.Frag} {H : Hp} {a p : Addr} {o : HO} {xs : List V} (h : SqT K H a xs) (hp : ∀ u, H p = some u → ∃ ys, u = .lst ys) : SqT K (upd H p o) a xs := by
  rcases h with (h | ⟨q, h⟩) | h
  · refine .inl (.inl ?_)
    rw [upd_ne (fun e => by subst e; obtain ⟨ys, z⟩ := hp _ h; cases z)]; exact h
  · refine .inl (.inr ⟨q, ?_⟩)
    rw [upd_ne (fun e => by subst e; obtain ⟨ys, z⟩ := hp _ h; cases z)]; exact h
  · exact .inr h
/-- what the new tuples are -/
def Prs (H0 H : Hp) : List V → List (V × V) → Prop := Paired fun v p => ∃ T, v = .ref T ∧ H0 T = none ∧ H T = some (.tup [p.1, p.2])
theorem upd_none {H : Hp} {p q : Addr} {o : HO} (h : upd H p o q = none) : H q = none := by
  by_cases e : q = p
  · rw [e, upd_same] at h; cases h
  · rw [upd_ne e] at h; exact h
theorem zip_loop {X : Cx} {A : Around} {R : Result → Shared → Prop} (hh : A.in1.in1.handled = none) {z TI TO i1 i2 ta tb S : Addr} {xs ys : List V} {res : Value}
    (D : ZipSep2 z TI TO i1 i2 (i1 :: (SK.tup ta).ad) (i2 :: (SK.tup tb).ad)) (n1 : ∀ a ∈ (SK.tup ta).ad, a ≠ i1) (n2 : ∀ a ∈ (SK.tup tb).ad, a ≠ i2) (hx : xs.length ≤ 1000) {pins : List (Addr × Obj)} {σ : L2.St} :
    ∀ (k i : Nat) (s : Shared) (H : Hp) (acc : List V), min xs.length ys.length - i = k → i ≤ xs.length → i ≤ ys.length → acc.length ≤ i → Inv X pins σ H s → H S = some (.lst acc) → (∀ b ∈ [z, TI, TO, i1, i2], FpOk X pins H b) →
      ZSt (.tup ta) (.tup tb) z TI TO i1 i2 i H s.heap → SqT X.K H ta xs → SqT X.K H tb ys →
      (∀ s' H' vs, Inv X pins σ H' s' → (∀ b u, b ≠ S → H b = some u → H' b = some u) → H' S = some (.lst (acc ++ vs)) → Prs H H' vs ((xs.zip ys).drop i) → (∀ b, H b = none → ∀ u, H' b = some u → ∃ ps, u = .tup ps) → R (.ok (.ret res)) s') →
      codeAny (model X.prog X.w) A (.builtin "list.extend.loop" ⟨[.ref S, .ref z, res], []⟩) R s := by
  intro k
  induction k with
  | zero =>
    intro i s H acc hk hi1 hi2 ha I hS hf st s1 s2 hR
    have l3 : i = xs.length ∨ i = ys.length := by omega
    refine codeAny_builtin F.entry_extend_loop ?_
    rw [Around.under_plainId F.plain_extend_loop _]
    show wpAny _ A.in1 (pyNext (.ref z) >>= _) _ _ s
    refine wpAny_bind (wpAny_mono (zip_stop (X := X) (A := A.in1) (E := fun _ _ => False) hh D n1 n2 I hf st s1 s2 hi1 hi2 l3) (fun r s' ⟨hr, I'⟩ => ?_) fun _ _ f => f.elim)
    subst hr
    refine wpAny_pure (hR s' H [] I' (fun b u _ e => e) (by rw [List.append_nil]; exact hS) ?_ fun b e u e2 => by rw [e] at e2; cases e2)
    rw [List.drop_of_length_le (by rw [List.length_zip]; omega)]
    exact .nil
  | succ k ih =>
    intro i s H acc hk hi1 hi2 ha I hS hf st s1 s2 hR
    refine codeAny_builtin F.entry_extend_loop ?_
    rw [Around.under_plainId F.plain_extend_loop _]
    show wpAny _ A.in1 (pyNext (.ref z) >>= _) _ _ s
    refine wpAny_bind (wpAny_mono (zip_step (X := X) (A := A.in1) (E := fun _ _ => False) hh D n1 n2 I hf st s1 s2 (by omega) (by omega)) (fun r s' ⟨T, x, y, hr, hT, I', ex, ey, st', nT⟩ => ?_) fun _ _ f => f.elim)
    subst hr
    have nST : S ≠ T := fun e => by rw [← e, hS] at hT; cases hT
    have hS' : upd H T (.tup [x, y]) S = some (.lst acc) := by rw [upd_ne nST]; exact hS
    obtain ⟨zl, its, n, rv, hl, e⟩ := I'.lstM hS'
    show wpAny _ A.in1 (updateSeq S (·.push (.ref T)) >>= _) _ _ _
    refine wpAny_bind ?_
    refine wpAny_updateSeq e rfl (wpAny_pure ⟨plainId_quiet F.plain_extend_loop _, ?_⟩) (by rw [List.size_toArray, ← hl, sizeLine_eq]; omega) (by show (its.toArray.push _).size ≤ sizeLine + 1; rw [Array.size_push, List.size_toArray, ← hl, sizeLine_eq]; omega)
    have I2 := I'.lset (t' := s'.toks) (its' := its ++ [.ref T]) (f := (·.push (.ref T))) (ys := acc ++ [.ref T]) hS' e (by simp) (rv.append (.cons (show RelV (V.ref T) (Value.ref T) from rfl) .nil)) (by rw [List.length_append, sizeLine_eq]; simp; omega)
    have nS : ∀ b ∈ [z, TI, TO, i1, i2], b ≠ S := fun b hb q => by have := (hf b hb).1; rw [q, hS] at this; cases this
    have HS2 : upd (upd H T (.tup [x, y])) S (.lst (acc ++ [.ref T])) S = some (.lst (acc ++ [.ref T])) := upd_same
    refine ih (i + 1) _ _ (acc ++ [.ref T]) (by omega) (by omega) (by omega) (by simp; omega) I2 HS2 (fun b hb => ⟨?_, (hf b hb).2⟩) ?_ (sqT_upd (sqT_upd s1 fun u q => by rw [hT] at q; cases q) fun u q => by rw [hS'] at q; cases q; exact ⟨_, rfl⟩) (sqT_upd (sqT_upd s2 fun u q => by rw [hT] at q; cases q) fun u q => by rw [hS'] at q; cases q; exact ⟨_, rfl⟩) ?_
    · rw [upd_ne (nS b hb), upd_ne (nT b hb)]; exact (hf b hb).1
    · obtain ⟨a1, ⟨x0, y0, a2⟩, a3, a4, a5⟩ := st'
      have mv : ∀ c ∈ [z, TI, TO, i1, i2], ∀ o, s'.heap.get? c = some o → (s'.heap.update S (Obj.mapSeq (·.push (.ref T)))).get? c = some o := fun c hc o q => (Heap.get?_update_other _ _ (Ne.symm (nS c hc))).trans q
      refine ⟨mv TI (by simp) _ a1, ⟨x0, y0, mv TO (by simp) _ a2⟩, SK.it_at a3 (mv i1 (by simp)), SK.it_at a4 (mv i2 (by simp)), ?_⟩
      rcases a5 with q | ⟨T0, b0, ps0, q, q2⟩
      · exact .inl (mv z (by simp) _ q)
      · refine .inr ⟨T0, b0, ps0, mv z (by simp) _ q, ?_⟩
        rw [upd_ne (fun e => by rw [e, hS'] at q2; cases q2)]; exact q2
    · intro s2' H2 vs I3 keep hS2 prs newT
      have kT : H2 T = some (.tup [x, y]) := keep T _ nST.symm (by rw [upd_ne nST.symm]; exact upd_same)
      refine hR s2' H2 (.ref T :: vs) I3 (fun b u hb e => keep b u hb ?_) (by rw [hS2, List.append_assoc]; rfl) ?_ fun b e u e2 => ?_
      · rw [upd_ne hb, upd_ne (fun q => by rw [q, hT] at e; cases e)]; exact e
      · have hlt : i < (xs.zip ys).length := by rw [List.length_zip]; omega
        rw [List.drop_eq_getElem_cons hlt]
        refine .cons ⟨T, rfl, hT, ?_⟩ (Paired.mapP prs fun _ _ ⟨T', e1, e2, e3⟩ => ⟨T', e1, upd_none (upd_none e2), e3⟩)
        have e1 : (xs.zip ys)[i]'hlt = (x, y) := by
          have h1 : i < xs.length := by omega
          have h2 : i < ys.length := by omega
          rw [List.getElem_zip]
          rw [List.getElem?_eq_getElem h1] at ex
          rw [List.getElem?_eq_getElem h2] at ey
          rw [Option.some.inj ex, Option.some.inj ey]
        rw [e1]; exact kT
      · by_cases hb : b = T
        · rw [hb, kT] at e2; cases e2; exact ⟨_, rfl⟩
        · have hbS : b ≠ S := fun q => by rw [q, hS] at e; cases e
          exact newT b (by rw [upd_ne hbS, upd_ne hb]; exact e) u e2
end DL
namespace DL
open PySem PySem.Spec L2 PyProof.Rows
theorem zip_no_len : typeLookup (.type "zip") "__len__" = pure none := by rw [typeLookup_type, builtinLookup_eq_fast]; kernel_rfl
theorem zip_no_hint : typeLookup (.type "zip") "__length_hint__" = pure none := by rw [typeLookup_type, builtinLookup_eq_fast]; kernel_rfl
/-- list(z), z a zip of two tuples that was not asked yet -/
theorem call_list_zip {X : Cx} (hc : X.calm = true) {z TI TO i1 i2 ta tb : Addr} {xs ys : List V}
    (D : ZipSep2 z TI TO i1 i2 (i1 :: (SK.tup ta).ad) (i2 :: (SK.tup tb).ad)) (n1 : ∀ a ∈ (SK.tup ta).ad, a ≠ i1) (n2 : ∀ a ∈ (SK.tup tb).ad, a ≠ i2) (hx : xs.length ≤ 1000) {pins : List (Addr × Obj)} {σ : L2.St} {s : Shared} {H : Hp} {E : Value → Shared → Prop} {Q : Value → Shared → Prop}
    (I : Inv X pins σ H s) (hf : ∀ b ∈ [z, TI, TO, i1, i2], FpOk X pins H b) (hz : IsZip s.heap z TI TO .none) (hTI : IsTupOf2 s.heap TI (.ref i1) (.ref i2)) (hTO : ∃ x y, IsTupOf2 s.heap TO x y) (h1 : (SK.tup ta).it i1 0 s.heap) (h2 : (SK.tup tb).it i2 0 s.heap)
    (s1 : SqT X.K H ta xs) (s2 : SqT X.K H tb ys)
    (hQ : ∀ S s' H' vs, H S = none → Inv X pins σ H' s' → (∀ b u, H b = some u → H' b = some u) → H' S = some (.lst vs) → Prs H H' vs (xs.zip ys) → Q (.ref S) s') :
    wpAny (model X.prog X.w) X.A (call (.type "list") [.ref z]) Q E s := by
  have hh : X.A.handled = none := I.ok.hd hc
  refine callType_codes (Q₁ := fun obj s₁ => obj = .ref s.heap.objs.size ∧ s₁ = { s with heap := s.heap.push { cls := .type "list", data := .seq #[] } }) F.called_list (F.typeCall_list_1 _) F.entry_list_init
    (code_list_new _ ⟨rfl, rfl⟩) fun obj s₁ h₁ => ?_
  obtain ⟨rfl, rfl⟩ := h₁
  have hS : (s.heap.push { cls := .type "list", data := .seq #[] }).get? s.heap.objs.size = some { cls := .type "list", data := .seq #[] } := Heap.get?_push_size _ rfl
  refine ⟨⟨_, hS, rfl⟩, F.args_list_init_2 _ _, ?_⟩
  generalize hSd : s.heap.objs.size = S at *
  have hzS : z ≠ S := fun e => by have := Heap.lt_size hz; rw [e, hSd] at this; exact Nat.lt_irrefl _ this
  show wpAny _ _ (do let old ← Builtin.List.listItems (.ref S); Builtin.List.listUpdate (.ref S) (fun _ => #[]); letGo old.toList.reverse; Builtin.List.listExtendWith (.ref S) (.ref z) .none) _ _ _
  refine wpAny_bind ?_
  unfold Builtin.List.listItems
  refine wpAny_bind (wpAny_seqItems hS rfl (wpAny_pure ?_))
  show wpAny _ _ (updateSeq S (fun _ => #[]) >>= fun _ => letGo (#[] : Array Value).toList.reverse >>= fun _ => Builtin.List.listExtendWith (.ref S) (.ref z) .none) _ _ _
  refine wpAny_bind (wpAny_updateSeq hS rfl ?_)
  have hS₂ := Heap.get?_update_self (Obj.mapSeq (fun _ => (#[] : Array Value))) hS rfl
  refine wpAny_bind (wpAny_letGo ?_)
  have k0 : ∀ b o, b ≠ S → s.heap.get? b = some o → ((s.heap.push { cls := .type "list", data := .seq #[] }).update S (Obj.mapSeq (fun _ => (#[] : Array Value)))).get? b = some o :=
    fun b o hb e => (Heap.get?_update_other _ _ (Ne.symm hb)).trans (Heap.get?_push_of_some _ e)
  generalize ((s.heap.push { cls := .type "list", data := .seq #[] }).update S (Obj.mapSeq (fun _ => (#[] : Array Value)))) = h2' at hS₂ k0 ⊢
  unfold Builtin.List.listExtendWith
  have hTz : Shared.TypeIs { s with heap := h2' } (.ref z) "zip" := ⟨_, k0 z _ hzS hz, rfl⟩
  refine wpAny_bind (wpAny_typeOf hTz ?_)
  have a1 : Builtin.List.listSameRef (.ref S) (.ref z) = false := by simp [Builtin.List.listSameRef, hzS.symm]
  have a2 : (Value.type "zip" == Value.type "list") = false := by decide
  have a3 : (Value.type "zip" == Value.type "tuple") = false := by decide
  simp only [a1, a2, a3, Bool.or_false, Bool.false_eq_true, if_false]
  refine wpAny_bind (wpAny_pyIter_zip (s := { s with heap := h2' }) (k0 z _ hzS hz) ?_)
  refine wpAny_bind (wpAny_holding ?_)
  unfold Builtin.List.listLengthHint
  refine wpAny_bind (wpAny_specialOf hTz zip_no_len ?_)
  show wpAny _ _ (specialOf (Value.ref z) (Str.ofString "__length_hint__") >>= _) _ _ _
  refine wpAny_bind (wpAny_specialOf hTz zip_no_hint ?_)
  refine wpAny_pure ?_
  show wpAny _ _ (rule "list.extend.makes-room" >>= fun _ => Builtin.List.listTouch (.ref S) >>= fun _ =>
    again (.builtin "list.extend.loop" ⟨[.ref S, .ref z, .none], []⟩)) _ _ _
  refine wpAny_bind (wpAny_rule ?_)
  refine wpAny_bind ?_
  show wpAny _ _ (updateSeq S (·.push .none) >>= fun _ => updateSeq S (·.pop)) _ _ _
  refine wpAny_bind (wpAny_updateSeq hS₂ rfl ?_)
  have hS₃ := Heap.get?_update_self (Obj.mapSeq (·.push Value.none)) hS₂ rfl
  refine wpAny_updateSeq (hz := by seq_fits) hS₃ rfl ?_
  have hS₄ := Heap.get?_update_self (Obj.mapSeq (·.pop)) hS₃ rfl
  have k1 : ∀ b o, b ≠ S → s.heap.get? b = some o → ((h2'.update S (Obj.mapSeq (·.push Value.none))).update S (Obj.mapSeq (·.pop))).get? b = some o :=
    fun b o hb e => (Heap.get?_update_other _ _ (Ne.symm hb)).trans ((Heap.get?_update_other _ _ (Ne.symm hb)).trans (k0 b o hb e))
  generalize ((h2'.update S (Obj.mapSeq (·.push Value.none))).update S (Obj.mapSeq (·.pop))) = h4 at hS₄ k1 ⊢
  refine wpAny_pure ⟨plainId_quiet F.plain_extend_loop _, ?_⟩
  have ltS : ∀ {b o}, s.heap.get? b = some o → b ≠ S := fun {b o} e q => by have := Heap.lt_size e; rw [q, hSd] at this; exact Nat.lt_irrefl _ this
  have nS : H S = none := I.hok.fresh (Nat.le_of_eq hSd)
  have I4 : Inv X pins σ (upd H S (.lst [])) { s with heap := h4 } := by
    have hS5 : ∃ c, h4.get? S = some { cls := .type "list", data := .seq ([] : List Value).toArray c } := ⟨_, hS₄⟩
    obtain ⟨c, hS5⟩ := hS5
    exact I.laid (t' := s.toks) (fun b o e => k1 b o (ltS e) e) (Nat.le_of_eq hSd) (show ObjOk X.prog X.w _ _ _ (.lst []) from ⟨Nat.zero_le _, [], c, .nil, hS5⟩)
  have bS : ∀ b ∈ [z, TI, TO, i1, i2], b ≠ S := fun b hb => by
    obtain ⟨x0, y0, hTO⟩ := hTO
    have e' : b = z ∨ b = TI ∨ b = TO ∨ b = i1 ∨ b = i2 := by simpa using hb
    rcases e' with q | q | q | q | q
    · rw [q]; exact hzS
    · rw [q]; exact ltS hTI
    · rw [q]; exact ltS hTO
    · rw [q]; obtain ⟨_, e1, _⟩ := SK.it_obj h1; exact ltS e1
    · rw [q]; obtain ⟨_, e2, _⟩ := SK.it_obj h2; exact ltS e2
  show codeAny (model X.prog X.w) X.A.in1 (.builtin "list.extend.loop" ⟨[.ref S, .ref z, .none], []⟩) (wants (fun r s₂ => r = Value.none ∧ Q (Value.ref S) s₂) E) { s with heap := h4 }
  refine zip_loop (X := X) (A := X.A.in1) (R := wants (fun r s₂ => r = Value.none ∧ Q (Value.ref S) s₂) E) (res := .none) (S := S) (xs := xs) (ys := ys) (ta := ta) (tb := tb) hh D n1 n2 hx _ 0 _ (upd H S (.lst [])) [] rfl (Nat.zero_le _) (Nat.zero_le _) (Nat.le_refl _) I4 upd_same (fun b hb => ⟨by rw [upd_ne (bS b hb)]; exact (hf b hb).1, (hf b hb).2⟩)
    ⟨k1 _ _ (bS TI (by simp)) hTI, ?_, SK.it_at h1 fun o q => k1 _ o (bS i1 (by simp)) q, SK.it_at h2 fun o q => k1 _ o (bS i2 (by simp)) q, .inl (k1 _ _ hzS hz)⟩ (sqT_upd s1 fun u q => by rw [nS] at q; cases q) (sqT_upd s2 fun u q => by rw [nS] at q; cases q) fun s' H' vs I' keep hS' prs _ => ?_
  · obtain ⟨x0, y0, hTO⟩ := hTO
    exact ⟨x0, y0, k1 _ _ (bS TO (by simp)) hTO⟩
  · refine ⟨rfl, hQ S s' H' vs nS I' (fun b u e => keep b u (fun q => by rw [q, nS] at e; cases e) (by rw [upd_ne (fun q => by rw [q, nS] at e; cases e)]; exact e)) hS' (Paired.mapP prs fun _ _ ⟨T', e1, e2, e3⟩ => ⟨T', e1, upd_none e2, e3⟩)⟩
end DL
namespace DL
open PySem PySem.Spec L2 PyProof.Rows
def tListZip (K : PySem.W.Frag) (ta : TA) : TE := fun σ H Q => ta σ H fun vs H1 => ∃ a b xs ys, vs = [.ref a, .ref b] ∧ SqT K H1 a xs ∧ SqT K H1 b ys ∧ xs.length ≤ 1000 ∧
  ∀ S H' vs', H1 S = none → (∀ b u, H1 b = some u → H' b = some u) → H' S = some (.lst vs') → Prs H1 H' vs' (xs.zip ys) → Q (.ref S) H'
theorem pe_listZip {X : Cx} {e e2 : Expr} {ta : TA} {p p2 pos pos2 : Pos} (hc : X.calm = true) (hgl : Gl X "list") (hml : X.mg "list" = none) (hg : Gl X "zip") (hm : X.mg "zip" = none) (ha : PA X [e, e2] ta)
    (hs : starEach [e, e2] X.env = (false, eval e X.env) :: starEach [e2] X.env := by rfl) (hpl : (backTo pos2 (starEach [e2] X.env)).any (·.1) = false := by rfl)
    (na : starEach [.Call (.Name "zip" p2) [e, e2] [] pos2] X.env = (false, eval (.Call (.Name "zip" p2) [e, e2] [] pos2) X.env) :: starEach [] X.env := by rfl) :
    PE X (.Call (.Name "list" p) [.Call (.Name "zip" p2) [e, e2] [] pos2] [] pos) (tListZip X.K ta) := by
  refine ⟨fun pins s σ H Q I h => ?_⟩
  refine Call_ (ld_blt I hgl hml boot_list (PyProof.Rows.callWith_type1 (args_cons (Call_ (ld_blt I hg hm PyProof.Rows.boot_zip (PyProof.Rows.callWith_type1 (thn (ha.run pos2 pins s σ H _ I h) fun us s1 ⟨vs, H1, I1, r1, q1⟩ => ?_) hs hpl))) na) na))
  obtain ⟨a, b, xs, ys, ex, hqx, hqy, hle, q⟩ := q1
  subst ex
  cases r1 with
  | cons r rr =>
    cases rr with
    | cons r' rr =>
      cases rr
      have fresh5 : ∀ c, c ∈ [s1.heap.objs.size + 4, s1.heap.objs.size + 2, s1.heap.objs.size + 3, s1.heap.objs.size, s1.heap.objs.size + 1] → FpOk X pins H1 c := fun c hcm => by
        have e' : c = s1.heap.objs.size + 4 ∨ c = s1.heap.objs.size + 2 ∨ c = s1.heap.objs.size + 3 ∨ c = s1.heap.objs.size ∨ c = s1.heap.objs.size + 1 := by simpa using hcm
        have hle : s1.heap.objs.size ≤ c := by
          rcases e' with z | z | z | z | z
          · rw [z]; exact Nat.le_add_right _ _
          · rw [z]; exact Nat.le_add_right _ _
          · rw [z]; exact Nat.le_add_right _ _
          · rw [z]; exact Nat.le_refl _
          · rw [z]; exact Nat.le_add_right _ _
        exact I1.fpOk hle (I1.hok.fresh hle)
      obtain ⟨o1, B1, b1, hb1, lt1, g1⟩ := src_begins (k := .tup a) I1 hqx r
      obtain ⟨o2, B2, b2, hb2, lt2, g2⟩ := src_begins (k := .tup b) I1 hqy r'
      refine zip_begins2 b1 b2 hb1 hb2 fun h' hz hTI hTO ho1 ho2 hsz hk => args_nil ?_
      have I2 : Inv X pins σ H1 { s1 with heap := h' } := I1.kept (t' := s1.toks) hk
      have D : ZipSep2 (s1.heap.objs.size + 4) (s1.heap.objs.size + 2) (s1.heap.objs.size + 3) s1.heap.objs.size (s1.heap.objs.size + 1) (s1.heap.objs.size :: (SK.tup a).ad) ((s1.heap.objs.size + 1) :: (SK.tup b).ad) := sep_new lt1 lt2
      exact call_list_zip hc D (fun a ha => Nat.ne_of_lt (lt1 a ha)) (fun a ha => Nat.ne_of_lt (Nat.lt_succ_of_lt (lt2 a ha))) hle I2 fresh5 hz hTI ⟨_, _, hTO⟩ (g1 _ _ ho1) (g2 _ _ ho2) hqx hqy fun S s' H' vs nS I' keep hS prs => ⟨.ref S, H', I', rfl, q S H' vs nS keep hS prs⟩
end DL
namespace DL
open PySem PySem.Spec L2
/-- the heap that is frozen behind it: what was, and every new tuple -/
def frzT (F H H' : Hp) : Hp := fun b => match F b with
  | some o => some o
  | none => match H b with
    | some _ => none
    | none => match H' b with
      | some (.tup ps) => some (.tup ps)
      | _ => none
theorem frzT_old {F H H' : Hp} {b : Addr} {o : HO} (h : F b = some o) : frzT F H H' b = some o := by unfold frzT; rw [h]
theorem frzT_new {F H H' : Hp} {b : Addr} {ps : List V} (h : F b = none) (h1 : H b = none) (h2 : H' b = some (.tup ps)) : frzT F H H' b = some (.tup ps) := by unfold frzT; rw [h, h1, h2]
theorem frzT_inv {F H H' : Hp} {b : Addr} {o : HO} (h : frzT F H H' b = some o) : F b = some o ∨ (F b = none ∧ H b = none ∧ H' b = some o ∧ ∃ ps, o = .tup ps) := by
  unfold frzT at h
  cases q : F b with
  | some u => rw [q] at h; exact .inl h
  | none =>
    rw [q] at h
    cases q1 : H b with
    | some u => rw [q1] at h; cases h
    | none =>
      rw [q1] at h
      dsimp only at h
      split at h
      · rename_i ps q2
        cases h
        exact .inr ⟨rfl, rfl, q2, _, rfl⟩
      · cases h
theorem frzT_grow {F H H' : Hp} (s : Same F H) (k : ∀ b u, H b = some u → H' b = some u) : Grow F H (frzT F H H') H' := by
  refine ⟨fun b u e => frzT_old e, fun b u e => k b u e, fun b u e => ?_, fun p o hp fp => ?_, fun p o u e => ?_⟩
  · rcases frzT_inv e with e | ⟨_, _, e, _⟩
    · exact k _ _ (s _ _ e)
    · exact e
  · unfold frzT; rw [fp, hp]
  · rcases frzT_inv e with e | ⟨_, _, _, ps, e⟩
    · exact e
    · cases e
theorem prs_rp {K : PySem.W.Frag} {F H H' : Hp} (s : Same F H) (k : ∀ b u, H b = some u → H' b = some u) : ∀ {vs xs ys : List V} {as bs : List PyData}, Prs H H' vs (xs.zip ys) → RpAll K F xs as → RpAll K F ys bs → RpAll K (frzT F H H') vs (zipD as bs)
  | vs, [], ys, _, _, p, .nil, _ => by cases p; cases ‹List PyData› <;> exact .nil
  | vs, x :: xs, [], _, _, p, .cons _ _, .nil => by cases p; exact .nil
  | _, x :: xs, y :: ys, _, _, .cons ⟨T, e1, e2, e3⟩ p, .cons a ra, .cons b rb => by
    subst e1
    have g := frzT_grow s k
    refine .cons (.tup (.inl (.inl (frzT_new (s.free e2) e2 e3))) (.cons (a.mono g.f) (.cons (b.mono g.f) .nil))) (prs_rp s k p ra rb)
section
variable {X : Cx} {W : WX} {e e2 : Expr} {fs : En → Rs (List PyData)}
def nListZip (fs : En → Rs (List PyData)) : En → Rs (List PyData) := fun ρ => (fs ρ).bind fun ds => match ds with
  | [.tuple as, .tuple bs] => if as.length ≤ 1000 then .ok (zipD as bs) else .bad
  | _ => .bad
theorem dn_listZip {p p2 pos pos2 : Pos} (hc : X.calm = true) (hml : X.mg "list" = none) (hm : X.mg "zip" = none) (ha : DA X W [e, e2] fs) (hgl : Gl X "list" := by rfl) (hg : Gl X "zip" := by rfl)
    (hs : starEach [e, e2] X.env = (false, eval e X.env) :: starEach [e2] X.env := by rfl) (hpl : (backTo pos2 (starEach [e2] X.env)).any (·.1) = false := by rfl)
    (na : starEach [.Call (.Name "zip" p2) [e, e2] [] pos2] X.env = (false, eval (.Call (.Name "zip" p2) [e, e2] [] pos2) X.env) :: starEach [] X.env := by rfl) :
    DN X W (.Call (.Name "list" p) [.Call (.Name "zip" p2) [e, e2] [] pos2] [] pos) (nListZip fs) :=
  PE.imp (pe_listZip hc hgl hml hg hm ha hs hpl na) fun σ H Q ⟨ρ, F, G, o⟩ => args_then (O := fun F H r => OutN X.K X.mg W σ F H r Q) G o (fun _ _ _ o => o) (fun _ _ o => o) fun F' H' ds vs g G' o' r => by
    split at o'
    · split at o'
      · rename_i as bs hl
        cases r with
        | cons ra rr =>
          cases rr with
          | cons rb rr =>
            cases rr
            cases ra with
            | tup ta ra =>
              cases rb with
              | tup tb rb =>
                refine ⟨_, _, _, _, rfl, same_sqT g.sub ta, same_sqT g.sub tb, by rw [ra.length]; exact hl, fun S H2 vs' nS k hS prs => ?_⟩
                have gg := frzT_grow g.sub k
                refine o' S vs' (frzT F' H' H2) H2 (g.trans gg) (g.h.free nS) ?_ hS (prs_rp g.sub k prs ra rb)
                cases q : frzT F' H' H2 S with
                | none => rfl
                | some u =>
                  rcases frzT_inv q with q | ⟨_, _, q, ps, e⟩
                  · have := g.sub _ _ q; rw [nS] at this; cases this
                  · rw [hS] at q; cases q; cases e
      · exact o'.elim
    · exact o'.elim
end
end DL
namespace DL
open PySem PySem.Spec L2
/-! ### x = dict(a list of pairs) -/
section
variable {X : Cx} {W : WX} {F0 H0 : Hp} {e : Expr} {pos : Pos} {es : List Expr} {fs : En → Rs (List PyData)}
def pairsD : List PyData → Option (List (Key × PyData))
  | [] => some []
  | .tuple [k, v] :: r => match keyD k, pairsD r with
    | some k, some kvs => some ((k, v) :: kvs)
    | _, _ => none
  | _ :: _ => none
theorem pairsD_ok {K : PySem.W.Frag} {F H : Hp} (s : Same F H) : ∀ {xs : List V} {ds : List PyData} {kvs : List (Key × PyData)}, RpAll K F xs ds → pairsD ds = some kvs →
    ∃ (ps : List Addr) (us : List (Key × V)), xs = ps.map V.ref ∧ Paired (fun p kv => SqT K H p [kV kv.1, kv.2]) ps us ∧ KvOk K F us kvs
  | _, _, _, .nil, e => by
    cases e
    exact ⟨[], [], rfl, .nil, .nil⟩
  | _, _, _, .cons (d := d) (ds := ds) r t, e => by
    unfold pairsD at e
    split at e
    · rename_i h; cases h
    · rename_i k v rest h
      cases h
      split at e
      · rename_i k' kvs' q1 q2
        cases e
        obtain ⟨ps, us, e1, e2, e3⟩ := pairsD_ok s t q2
        cases r with
        | tup hq tt =>
          rename_i a xs2
          cases tt with
          | cons ra rr =>
            cases rr with
            | cons rb rn =>
              cases rn
              rename_i va vb
              have ek := keyD_V ra q1
              subst ek
              exact ⟨a :: ps, (k', vb) :: us, by rw [e1]; rfl, .cons (same_sqT s hq) e2, .cons ⟨rfl, rb⟩ e3⟩
      · cases e
    · cases e
theorem argsSb {D : Ends} {σ : L2.St} {F H : Hp} {ρ : En} {k : List PyData → Fl} {R : List V → Hp → Prop} (G : GoodS X.K F0 H0 F H σ ρ) (o : OutS X.K X.mg W F0 H0 (sBind (fs ρ) ρ k) D)
    (hk : ∀ F' H' ds vs, Grow F H F' H' → OutS X.K X.mg W F0 H0 (k ds) D → GoodS X.K F0 H0 F' H' σ ρ → BpAll X.K F' H' vs ds → R vs H') : tAB X.K X.mg W fs σ H R := by
  refine ⟨ρ, F, G.gd, ?_⟩
  unfold sBind at o
  cases q : fs ρ with
  | bad => rw [q] at o; exact o
  | ex c => rw [q] at o; exact exS G o
  | ok d =>
    rw [q] at o
    exact fun v F' H' g r => hk F' H' d v g o (G.grow g) r
def sDictP (i : Nat) (fs : En → Rs (List PyData)) : DS := fun ρ => sBind (fs ρ) ρ fun ds => match ds with
  | [.list es] => match pairsD es with
    | some kvs => .nx (ρ.set i (some (.ownd (mergeD [] kvs))))
    | none => .bad
  | _ => .bad
theorem ds_dictP {i : Nat} {x : Str} {pos' p cpos : Pos} (hcalm : X.calm = true) (hN : X.N.Nodup) (hm : X.mg "dict" = none) (ha : DAB X W [e] fs) (hg : Gl X "dict" := by rfl)
    (he : starEach [e] X.env = (false, eval e X.env) :: starEach [] X.env := by rfl) (hpl : (backTo cpos (starEach [] X.env)).any (·.1) = false := by rfl)
    (hi : X.N[i]? = some x := by rfl) (hx : Loc X.env.scope x := by first | exact Or.inl rfl | exact Or.inr rfl) (hs : swapsWith (.Call (.Name "dict" p) [e] [] cpos) (some (.Name x pos')) pos.line X.env = pure false := by rfl) (hf : X.fn x = true ∨ X.env.scope.names.lookup x = some .local := by first | exact .inl rfl | exact .inr rfl) :
    DSt X W F0 H0 (.Assign [.Name x pos'] (.Call (.Name "dict" p) [e] [] cpos) pos) (sDictP i fs) :=
  PS.imp (ps_set hN hi hx (pe_callTy (call_dictP hcalm) hg hm (by decide +kernel) ha (by decide) (by decide) he hpl) hs hf) fun D σ H ⟨ρ, F, G, o⟩ => argsSb G o fun F' H' ds vs g o' G' b => by
    split at o'
    · rename_i es
      split at o'
      · rename_i kvs q
        obtain ⟨v, rfl, r⟩ := b.one
        obtain ⟨a, xs, rfl, q1, q2⟩ := r.list G'.gd.sub
        obtain ⟨ps, us, e1, e2, e3⟩ := pairsD_ok G'.gd.sub q2 q
        subst e1
        refine ⟨a, ps, us, rfl, .inl q1, e2, fun p hp => ?_⟩
        have G1 : GoodS X.K F0 H0 F' (upd H' p (.dK (mergeK [] us))) σ ρ := G'.grow (Grow.open G'.gd.sub hp)
        exact o' _ F' _ (G1.putOwn (x := .ownd (mergeD [] kvs)) ⟨p, _, rfl, upd_same, G'.gd.sub.free hp, kv_merge e3 .nil⟩ (G'.gr.h.free hp) fun j y hj ej oy z => by
          obtain ⟨u, hu, _⟩ := G'.gd.own_at (same_upd hp) ej oy z
          rw [hp] at hu; cases hu)
      · exact o'.elim
    · exact o'.elim
end
end DL
namespace DL
open PySem PySem.Spec L2
/-! ## except C as e: isinstance(e, D) -/
/-- what comes for every address, if it is the same -/
noncomputable def allA (g : Addr → Fl) : Fl := by
  classical
  exact if h : ∃ r, ∀ a, g a = r then h.choose else .bad
theorem allA_eq {g : Addr → Fl} {r : Fl} (h : ∀ a, g a = r) : allA g = r := by
  unfold allA
  rw [dif_pos ⟨r, h⟩]
  have z : ∃ r, ∀ a, g a = r := ⟨r, h⟩
  exact (z.choose_spec 0).symm.trans (h 0)
theorem allA_at {g : Addr → Fl} (n : allA g ≠ .bad) (a : Addr) : g a = allA g := by
  unfold allA at n ⊢
  by_cases h : ∃ r, ∀ a, g a = r
  · rw [dif_pos h]; exact h.choose_spec a
  · rw [dif_neg h] at n; exact absurd rfl n
def clr (i : Nat) : Fl → Fl
  | .nx ρ => .nx (ρ.set i none)
  | .bk ρ => .bk (ρ.set i none)
  | .ct ρ => .ct (ρ.set i none)
  | .ex _ _ => .bad
  | r => r
noncomputable def sTryAs (cs : List (Str × List Str)) (h : Str) (i : Nat) (f : DS) (g : Addr → List Str → DS) : DS := fun ρ => match f ρ with
  | .ex c ρ' => match cs.lookup c with
    | some sup => if sup.contains h then allA fun a => clr i (g a sup (ρ'.set i (some (.hd a)))) else .ex c ρ'
    | none => .bad
  | r => r
def eIsE (i : Nat) (a : Addr) (b : Bool) : DEx := fun ρ => match ρ[i]? with
  | some (some (.hd a')) => if a' = a then .ok (.bool b) else .bad
  | _ => .bad
/-- what is known of the classes -/
structure XIs (K : PySem.W.Frag) (mg : Str → Option Value) (cs : List (Str × List Str)) (hs : List Str) : Prop where
  ec : ∀ p ∈ cs, ∀ C, mg p.1 = some (.ref C) → L2.ExcC K C
  kit : ∀ p ∈ cs, ∀ h ∈ hs, ∀ C C', mg p.1 = some (.ref C) → mg h = some (.ref C') → PySem.W.kitOne K (.ref C) (.ref C') = some (p.2.contains h)
  ve : ∀ p ∈ cs, ∀ C, mg p.1 = some (.ref C) → PySem.W.kitOne K (.ref C) (.type "ValueError") = some true
section
variable {X : Cx} {W : WX} {F0 H0 : Hp} {st : Stmt} {body : List Stmt} {f : DS} {pos : Pos}
theorem GoodS.clr {F H : Hp} {i : Nat} {r : Fl} {D : Ends} (o : OutS X.K X.mg W F0 H0 (clr i r) D) : OutS X.K X.mg W0 F0 H0 r { nx := fun σ' H' => D.nx (σ'.set i none) H', rt := D.rt, bk := fun σ' H' => D.bk (σ'.set i none) H', ct := fun σ' H' => D.ct (σ'.set i none) H' } := by
  cases r with
  | nx ρ => exact fun σ F H G => o _ F H (G.forgetV i none)
  | bk ρ => exact fun σ F H G => o _ F H (G.forgetV i none)
  | ct ρ => exact fun σ F H G => o _ F H (G.forgetV i none)
  | rt d => exact o
  | rtE d ρ => exact o
  | ex c ρ => exact o.elim
  | bad => exact o
theorem ds_tryAs {x n : Str} {np pos' : Pos} {b₀ : Stmt} {suite : List Stmt} {i : Nat} {cs : List (Str × List Str)} {g : Addr → List Str → DS} (h1 : X.stack = X.env :: X.outer) (h2 : X.env.frame = some X.env.locals) (hN : X.N.Nodup) (tk : Takes X W) (hx : ExmT X.K X.mg cs [x]) (hc : ExcC X.K X.mg x)
    (hb : ∀ (W2 : WX) (pn : List (Addr × Obj)) (xe : Value → Shared → Prop), Takes (X.tr pn xe) W2 → PassesOwn (model X.prog X.w) X.A X.env xe → DSs (X.tr pn xe) W2 F0 H0 body f)
    (hh : ∀ (a : Addr) (oe : Obj) (C : Addr) (c : Str) (sup : List Str) (pn : List (Addr × Obj)), X.mg c = some (.ref C) → (c, sup) ∈ cs → Zc (.ref C) none oe → (∃ vs, oe.data = .fields vs) → DSs (X.suite a ((a, oe) :: pn)) W0 F0 H0 (b₀ :: suite) (g a sup))
    (hi : X.N[i]? = some n := by rfl) (hln : X.env.kindOf n = some .local := by rfl) (hg : Gl X x := by rfl) (hdb : (x == ("__debug__" : Str)) = false := by decide) :
    DSt X W F0 H0 (.Try body [.ExceptHandler (some (.Name x np)) (some n) (b₀ :: suite) pos'] [] [] pos) (sTryAs cs x i f g) := by
  obtain ⟨Cx, cx, _⟩ := hc.ex
  refine PS.imp (ps_try_as (c := .ref Cx) (ts := fun a cls d D σ H => ∃ c C sup, cls = .ref C ∧ d = none ∧ X.mg c = some (.ref C) ∧ (c, sup) ∈ cs ∧ tS X.K X.mg W0 F0 H0 (g a sup) D σ H) h1 h2 hN hi hln ⟨hg, hdb, .inl cx⟩ tk (tb := fun W2 => tS X.K X.mg W2 F0 H0 f) (fun W2 pn xe tk2 po2 => hb W2 pn xe tk2 po2)
    (fun a oe cls d pn hz hf => ⟨fun pins s σ H D I ⟨c, C, sup, e1, e2, m, hm, t⟩ => by subst e1; subst e2; exact (hh a oe C c sup pn m hm hz hf).run pins s σ H D I t⟩)) fun D σ H ⟨ρ, F, G, o⟩ => ⟨ρ, F, G, ?_⟩
  unfold sTryAs at o
  cases q : f ρ with
  | ex c ρ' =>
    rw [q] at o
    dsimp only at o
    intro C σ' F' H' G' m
    cases ql : cs.lookup c with
    | none => rw [ql] at o; exact o.elim
    | some sup =>
      rw [ql] at o
      dsimp only at o
      have hm := lookup_mem ql
      refine ⟨_, hx.all (c, sup) hm x (by simp) C Cx m cx, fun hb a na => ?_, fun hb => ?_⟩
      · rw [if_pos hb] at o
        have nb : allA (fun a => clr i (g a sup (ρ'.set i (some (.hd a))))) ≠ .bad := fun z => by rw [z] at o; exact o
        have e := allA_at nb a
        rw [← e] at o
        exact ⟨c, C, sup, rfl, rfl, m, hm, _, F', G'.putL (y := .hd a) rfl rfl, GoodS.clr (F := F) (H := H) o⟩
      · rw [if_neg (by rw [hb]; exact Bool.false_ne_true)] at o
        exact o C σ' F' H' G' m
  | nx ρ' => rw [q] at o; exact o
  | rt d => rw [q] at o; exact o
  | rtE d ρ' => rw [q] at o; exact o
  | bk ρ' => rw [q] at o; exact o
  | ct ρ' => rw [q] at o; exact o
  | bad => rw [q] at o; exact o
theorem isE_read {Y : Cx} {a C : Addr} {i : Nat} {b : Bool} {v : V} {cv : Value} {n : Str} {σ : L2.St} {H : Hp} {Q : VK} (hcv : ∀ u, RelV v u → u = cv) (hk : PySem.W.kitOne Y.K (.ref C) cv = some b) (h : tE Y.K Y.mg W (eIsE i a b) σ H Q) :
    tCB (rIsE Y.K C a) (tCons (tVar i) (tCons (tC v) tNil)) σ H Q := by
  obtain ⟨ρ, F, G, o⟩ := h
  unfold eIsE at o
  split at o
  · rename_i a' e
    split at o
    · rename_i ha
      subst ha
      obtain ⟨w, h1, h2⟩ := G.at_ i _ e
      cases h2
      exact ⟨_, h1, v, cv, b, rfl, hcv, hk, o _ F H (.refl G.sub) (.bl b)⟩
    · exact o.elim
  · exact o.elim
/-- isinstance(e, D), D a class of the program's own -/
theorem de_isE {a C C' : Addr} {oe : Obj} {pn : List (Addr × Obj)} {n T : Str} {i : Nat} {b : Bool} {p p1 p2 : Pos} (ec : L2.ExcC X.K C) (hz : Zc (.ref C) none oe) (hf : ∃ vs, oe.data = .fields vs) (hk : PySem.W.kitOne X.K (.ref C) (.ref C') = some b) (hT : X.mg T = some (.ref C')) (mi : X.mg "isinstance" = none)
    (hN : X.N[i]? = some n := by rfl) (hv : Vis X.env.scope n := by first | exact Or.inl rfl | exact Or.inr (Or.inl rfl) | exact Or.inr (Or.inr rfl)) (hd : (n == ("__debug__" : Str)) = false := by decide) (hcd : (n == ("__classdict__" : Str)) = false := by decide)
    (hg : Gl X "isinstance" := by rfl) (hg2 : Gl X T := by rfl) (hd2 : (T == ("__debug__" : Str)) = false := by decide)
    (hs1 : starEach [.Name n p1, .Name T p2] X.env = (false, eval (.Name n p1) X.env) :: starEach [.Name T p2] X.env := by rfl) (hs2 : starEach [.Name T p2] X.env = (false, eval (.Name T p2) X.env) :: starEach [] X.env := by rfl)
    (hpl : (backTo pos (starEach [.Name T p2] X.env)).any (·.1) = false := by rfl) :
    DE (X.suite a ((a, oe) :: pn)) W (.Call (.Name "isinstance" p) [.Name n p1, .Name T p2] [] pos) (eIsE i a b) :=
  PE.imp (pe_callB (call_isE ec hz hf) hg mi (by decide +kernel) (pa_cons (pe_var (X := X.suite a ((a, oe) :: pn)) hN hv hd hcd) (pa_cons (pe_glob (X := X.suite a ((a, oe) :: pn)) (v := .ref C') hg2 hT rfl hd2) pa_nil hs2) hs1) (by decide) (by decide) hs1 hpl) fun σ H Q h => isE_read (Y := X.suite a ((a, oe) :: pn)) (n := n) (fun u r => r) hk h
/-- isinstance(e, ValueError) -/
theorem de_isEB {a C : Addr} {oe : Obj} {pn : List (Addr × Obj)} {n T : Str} {T' : String} {i : Nat} {b : Bool} {p p1 p2 : Pos} (ec : L2.ExcC X.K C) (hz : Zc (.ref C) none oe) (hf : ∃ vs, oe.data = .fields vs) (hk : PySem.W.kitOne X.K (.ref C) (.type T') = some b) (hT : X.mg T = none) (hb : bootBuiltins T = some (.type T')) (mi : X.mg "isinstance" = none)
    (hN : X.N[i]? = some n := by rfl) (hv : Vis X.env.scope n := by first | exact Or.inl rfl | exact Or.inr (Or.inl rfl) | exact Or.inr (Or.inr rfl)) (hd : (n == ("__debug__" : Str)) = false := by decide) (hcd : (n == ("__classdict__" : Str)) = false := by decide)
    (hg : Gl X "isinstance" := by rfl) (hg2 : Gl X T := by rfl) (hn2 : T ≠ "__name__" := by decide) (hd2 : (T == ("__debug__" : Str)) = false := by decide)
    (hs1 : starEach [.Name n p1, .Name T p2] X.env = (false, eval (.Name n p1) X.env) :: starEach [.Name T p2] X.env := by rfl) (hs2 : starEach [.Name T p2] X.env = (false, eval (.Name T p2) X.env) :: starEach [] X.env := by rfl)
    (hpl : (backTo pos (starEach [.Name T p2] X.env)).any (·.1) = false := by rfl) :
    DE (X.suite a ((a, oe) :: pn)) W (.Call (.Name "isinstance" p) [.Name n p1, .Name T p2] [] pos) (eIsE i a b) :=
  PE.imp (pe_callB (call_isE ec hz hf) hg mi (by decide +kernel) (pa_cons (pe_var (X := X.suite a ((a, oe) :: pn)) hN hv hd hcd) (pa_cons (pe_bltn (X := X.suite a ((a, oe) :: pn)) (v := .ty T') hg2 hT hb rfl hn2 hd2) pa_nil hs2) hs1) (by decide) (by decide) hs1 hpl) fun σ H Q h => isE_read (Y := X.suite a ((a, oe) :: pn)) (n := n) (fun u r => r) hk h
end
end DL
namespace DL
open PySem PySem.Spec L2 PyProof.Rows
/-! ## sorted of a dict of texts, however many -/
section
variable {X : Cx} {W : WX} {pos : Pos}
theorem call_sortedDA (hcalm : X.calm = true) : CallR X (.builtin "sorted") (fun xs H Q => ∃ (a : Addr) (kvs : List (Key × V)) (ks : List Str), xs = [.ref a] ∧ Rd H a (.dK kvs) ∧ kvs.map (·.1) = ks.map Sum.inr ∧ ks.length ≤ sizeLine ∧
    ∀ ys p, ys.Perm ks → sortedS ys = true → H p = none → Q (.ref p) (L2.upd H p (.lst (ys.map V.str)))) := by
  intro pins s σ H xs us Q I r q
  obtain ⟨a, kvs, ks, ex, hd, hks, h64, q⟩ := q
  subst ex
  obtain ⟨u, eu, rx⟩ := vals1 r
  subst eu
  cases rx
  obtain ⟨z, lo, vs, rel, dd⟩ := dk_rd I.hok hd
  obtain ⟨ep, hat⟩ := dd.dictAt
  have hkeys : vs.map (·.1) = ks.map Sum.inr := rel.keys.symm.trans hks
  have hl : vs.length = ks.length := by
    have e := congrArg List.length hkeys
    rw [List.length_map, List.length_map] at e
    exact e
  have h16 : vs.length ≤ sizeLine := by rw [hl]; exact h64
  refine sorted_col (PySem.W.kdu_collect (A := X.A.in1) (PySem.W.kdl_dict (knd := mixKind X.prog X.w) (kvs := vs) (ep := ep) lo) (I.ok.hd hcalm) hat h16 fun h' tk acc hk hacc => ?_)
  have hal : acc.toList.length = ks.length := by rw [Array.length_toList, hacc.1, hl]
  have hS : StrsAre acc.toList ks := L2.strs_at hal fun j v e => by
    obtain ⟨k, x, e1, e2⟩ := hacc.2 j v (by rw [← Array.getElem?_toList]; exact e)
    have e3 : (vs.map (·.1))[j]? = some k := by rw [List.getElem?_map, e1]; all_goals rfl
    rw [hkeys, List.getElem?_map] at e3
    cases e4 : ks[j]? with
    | none => rw [e4] at e3; cases e3
    | some y =>
      rw [e4] at e3
      have e5 : Sum.inr y = k := Option.some.inj e3
      subst e5
      obtain ⟨t, e6⟩ := Value.isStrOf_shape (x := y) (v := v) e2
      exact ⟨y, t, rfl, e6⟩
  refine ⟨by rw [hal]; exact h64, ks, hS, fun out ss' h2 ep2 a1 a2 a3 a4 a5 => ?_⟩
  have I1 : Inv X pins σ H { s with heap := h', toks := tk } := I.kept hk
  exact ⟨.ref _, L2.upd H h'.objs.size (.lst (ss'.map V.str)), I1.laid (t' := tk) a4 (Nat.le_refl _) ⟨by rw [List.length_map, a2.length_eq]; exact h64, out.toList, ep2, vals_of_strs a1, a5⟩, rfl, q ss' _ a2 a3 (I1.hok.fresh (Nat.le_refl _))⟩
def nSortKA (i : Nat) : En → Rs (List PyData) := fun ρ => (owndAt ρ i).bind fun kvs => match keysS kvs with
  | some ks => if ks.length ≤ sizeLine then .ok ((sortS ks).map PyData.str) else .bad
  | none => .bad
theorem dn_sortKA {i : Nat} {x : Str} {p p2 : Pos} (hc : X.calm = true) (hm : X.mg "sorted" = none) (hg : Gl X "sorted" := by rfl) (hN : X.N[i]? = some x := by rfl) (hv : Vis X.env.scope x := by first | exact Or.inl rfl | exact Or.inr (Or.inl rfl) | exact Or.inr (Or.inr rfl)) (hd : (x == ("__debug__" : Str)) = false := by decide) (hcd : (x == ("__classdict__" : Str)) = false := by decide)
    (he : starEach [.Name x p2] X.env = (false, eval (.Name x p2) X.env) :: starEach [] X.env := by rfl) (hpl : (backTo pos (starEach [] X.env)).any (·.1) = false := by rfl) :
    DN X W (.Call (.Name "sorted" p) [.Name x p2] [] pos) (nSortKA i) :=
  PE.imp (pe_callB (call_sortedDA hc) hg hm (by rfl) (pa_cons (pe_var hN hv hd hcd) pa_nil he) (by decide) (by decide) he hpl) fun σ H Q ⟨ρ, F, G, o⟩ => by
    unfold nSortKA at o
    cases q : owndAt ρ i with
    | bad => rw [q] at o; exact o.elim
    | ex c => exact (owndAt_no_ex q).elim
    | ok kvs =>
      rw [q] at o
      obtain ⟨v, h1, p, us, rfl, h2, h3, h4⟩ := G.at_ i _ (owndAt_ok q)
      cases qk : keysS kvs with
      | none => simp only [Rs.bind, qk] at o; exact o.elim
      | some ks =>
        simp only [Rs.bind, qk] at o
        obtain ⟨k1, k2⟩ := keysS_spec h4 qk
        split at o
        · rename_i h64
          refine ⟨.ref p, h1, p, us, ks, rfl, .inl h2, k1, h64, fun ys l hp hs hl => ?_⟩
          have e3 : ys = sortS ks := by
            refine sortS_unique hp ?_
            cases ys with
            | nil => exact .nil
            | cons z r => exact rising_pw hs
          subst e3
          exact o l _ F _ (Grow.open G.sub hl) hl (G.sub.free hl) upd_same (RpAll.strs _ fun x hx => k2 x (hp.mem_iff.mp hx))
        · exact o.elim
end
end DL
namespace DL
open PySem PySem.Spec L2
def f_is_within : DS := sRet (eAnd (eIsi "int" (eVar 0)) (eAnd (eNot (eIsi "bool" (eVar 0))) (e3 dLe dLe (eVar 1) (eVar 0) (eVar 2))))
def M_is_within : List D → Rs D := fun ds => outD (f_is_within (startE 3 ds))

def f_is_word : DS := sSeq (sIf (tOr (tNot (tTru (eIsi "str" (eVar 1)))) (t2 dGt (eB dLen (aCons (eVar 1) (aNil))) (eVar 2))) (sRet (eC (.bool false))) (sNil)) (sRet (eNot (eFz (nLc [3] (iSeq (eVar 1)) (gN 3) (t2 dNotIn (eVar 3) (eCut (eC (.str "abc")) (oNone) (oSome (eVar 0)))) (eVar 3)))))
def M_is_word : List D → Rs D := fun ds => outD (f_is_word (startE 4 ds))

def f_is_rules : DS := sSeq (sIf (tOr (tNot (tTru (eIsi "tuple" (eVar 0)))) (tOr (t2 dNe (eB dLen (aCons (eVar 0) (aNil))) (eC (.int 2))) (tNot (tTru (eCall 3 M_is_within (aCons (e2 dIx (eVar 0) (eC (.int 0))) (aCons (eC (.int 1)) (aCons (eC (.int 3)) (aNil))))))))) (sRet (eC (.bool false))) (sNil)) (sSeq (sIf (tOr (tNot (tTru (eIsi "tuple" (e2 dIx (eVar 0) (eC (.int 1)))))) (tNot (t3 dLe dLe (eC (.int 1)) (eB dLen (aCons (e2 dIx (eVar 0) (eC (.int 1))) (aNil))) (eB dLen (aCons (eC (.str "abc")) (aNil)))))) (sRet (eC (.bool false))) (sNil)) (sRet (eNot (eFz (nLc [1] (iSeq (e2 dIx (eVar 0) (eC (.int 1)))) (gN 1) (tAnd (t2 dIsNot (eVar 1) (eC .none)) (tNot (tTru (eCall 3 M_is_word (aCons (eB dLen (aCons (e2 dIx (eVar 0) (eC (.int 1))) (aNil))) (aCons (eVar 1) (aCons (eC (.int 4)) (aNil)))))))) (eVar 1))))))
def M_is_rules : List D → Rs D := fun ds => outD (f_is_rules (startE 2 ds))

def f_look : DS := sIf (tNot (tTru (eCall 1 M_is_rules (aCons (eVar 0) (aNil))))) (sRaise "BadRules") (sNil)
def M_look : List D → Rs D := fun ds => outD (f_look (startE 1 ds))

def f_is_row : DS := sRet (eCall 3 M_is_word (aCons (eB dLen (aCons (e2 dIx (eVar 0) (eC (.int 1))) (aNil))) (aCons (eVar 1) (aCons (eC (.int 24)) (aNil)))))
def M_is_row : List D → Rs D := fun ds => outD (f_is_row (startE 2 ds))

def f_look_row : DS := sSeq (sExpr (eCall 1 M_look (aCons (eVar 0) (aNil)))) (sIf (tNot (tTru (eCall 2 M_is_row (aCons (eVar 0) (aCons (eVar 1) (aNil)))))) (sRaise "BadRow") (sNil))
def M_look_row : List D → Rs D := fun ds => outD (f_look_row (startE 2 ds))

def f_word_of : DS := sRet (e2 dIx (e2 dIx (eVar 0) (eC (.int 1))) (eM "str" dSIdx (eC (.str "abc")) (aCons (eVar 1) (aNil))))
def M_word_of : List D → Rs D := fun ds => outD (f_word_of (startE 2 ds))

def f_has_ended : DS := sRet (eOr (e2 dLt (eB dLen (aCons (eVar 1) (aNil))) (e2 dIx (eVar 0) (eC (.int 0)))) (e2 dIs (eCall 2 M_word_of (aCons (eVar 0) (aCons (e2 dIx (eVar 1) (eC (.int 0))) (aNil)))) (eC .none)))
def M_has_ended : List D → Rs D := fun ds => outD (f_has_ended (startE 2 ds))

def f_next_of : DS := sRet (e2 dAdd (eCut (eVar 1) (oSome (e2 dIx (eVar 0) (eC (.int 0)))) (oNone)) (eCall 2 M_word_of (aCons (eVar 0) (aCons (e2 dIx (eVar 1) (eC (.int 0))) (aNil)))))
def M_next_of : List D → Rs D := fun ds => outD (f_next_of (startE 2 ds))

def f_next_row : DS := sSeq (sExpr (eCall 2 M_look_row (aCons (eVar 0) (aCons (eVar 1) (aNil))))) (sSeq (sIf (tTru (eCall 2 M_has_ended (aCons (eVar 0) (aCons (eVar 1) (aNil))))) (sRaise "Ended") (sNil)) (sRet (eCall 2 M_next_of (aCons (eVar 0) (aCons (eVar 1) (aNil))))))
def M_next_row : List D → Rs D := fun ds => outD (f_next_row (startE 2 ds))

def f_after : DS := sSeq (sExpr (eCall 2 M_look_row (aCons (eVar 0) (aCons (eVar 1) (aNil))))) (sSeq (sIf (tNot (tTru (eCall 3 M_is_within (aCons (eVar 2) (aCons (eC (.int 0)) (aCons (eC (.int 200)) (aNil))))))) (sRaise "BadCount") (sNil)) (sSeq (sFor (iR1 (aCons (eVar 2) (aNil))) (gN 3) (sSeq (sIf (tTru (eCall 2 M_has_ended (aCons (eVar 0) (aCons (eVar 1) (aNil))))) (sRaise "Ended") (sNil)) (sAsg 1 (eCall 2 M_next_of (aCons (eVar 0) (aCons (eVar 1) (aNil))))))) (sRet (eVar 1))))
def M_after : List D → Rs D := fun ds => outD (f_after (startE 4 ds))

def f_course : DS := sSeq (sExpr (eCall 2 M_look_row (aCons (eVar 0) (aCons (eVar 1) (aNil))))) (sSeq (sIf (tNot (tTru (eCall 3 M_is_within (aCons (eVar 2) (aCons (eC (.int 0)) (aCons (eC (.int 200)) (aNil))))))) (sRaise "BadCount") (sNil)) (sSeq (sOwn 3 (nLst (aCons (eVar 1) (aNil)))) (sSeq (sWhile 1000 (tAnd (t2 dLe (eB dLen (aCons (eVarB 3) (aNil))) (eVar 2)) (tNot (tTru (eCall 2 M_has_ended (aCons (eVar 0) (aCons (e2 dIx (eVarB 3) (e1 dNeg (eC (.int 1)))) (aNil))))))) (sApp 3 (eCall 2 M_next_of (aCons (eVar 0) (aCons (e2 dIx (eVarB 3) (e1 dNeg (eC (.int 1)))) (aNil)))))) (sFz 3 (sRet (eVar 3))))))
def M_course : List D → Rs D := fun ds => outD (f_course (startE 4 ds))

def f_is_ended : DS := sSeq (sExpr (eCall 2 M_look_row (aCons (eVar 0) (aCons (eVar 1) (aNil))))) (sRet (eCall 2 M_has_ended (aCons (eVar 0) (aCons (eVar 1) (aNil)))))
def M_is_ended : List D → Rs D := fun ds => outD (f_is_ended (startE 2 ds))

def f__law_seed : DS := sRet (e2 dMod (e2 dPow (e2 dMod (e2 dAdd (e2 dAdd (e2 dMul (eVar 0) (eC (.int 1103515245))) (e2 dMul (eC (.int 7919)) (eVar 1))) (eC (.int 12345))) (eC (.int 2147483647))) (eC (.int 5))) (eC (.int 2147483647)))
def M__law_seed : List D → Rs D := fun ds => outD (f__law_seed (startE 2 ds))

def f__law_cell : DS := sSeq (sIf (t2 dLt (eVar 1) (eB dLen (aCons (eVar 0) (aNil)))) (sRet (e2 dIx (eVar 0) (eVar 1))) (sNil)) (sRet (eC (.int 0)))
def M__law_cell : List D → Rs D := fun ds => outD (f__law_cell (startE 2 ds))

def f__law_pick : DS := sRet (e2 dMod (e2 dDiv (eVar 0) (eC (.int 97))) (eVar 1))
def M__law_pick : List D → Rs D := fun ds => outD (f__law_pick (startE 2 ds))

def f__law_letters : DS := sRet (eM "str" dJoin (eC (.str "")) (aCons (eFz (nLc [3] (iR1 (aCons (eVar 2) (aNil))) (gN 3) (tTrue) (e2 dIx (eC (.str "abc")) (eCall 2 M__law_pick (aCons (eCall 2 M__law_seed (aCons (eVar 0) (aCons (eVar 3) (aNil)))) (aCons (eVar 1) (aNil))))))) (aNil)))
def M__law_letters : List D → Rs D := fun ds => outD (f__law_letters (startE 4 ds))

def f__law_rules : DS := sSeq (sAsg 2 (eCall 2 M__law_seed (aCons (eCall 2 M__law_cell (aCons (eVar 0) (aCons (eVar 1) (aNil)))) (aCons (eC (.int 0)) (aNil))))) (sSeq (sAsg 3 (e2 dIx (eFz (nLst (aCons (e2 dAdd (eC (.int 1)) (e2 dMod (e2 dDiv (eVar 2) (eC (.int 5))) (eC (.int 3)))) (aCons (eC (.int 2)) (aCons (eC (.int 2)) (aNil)))))) (e2 dMod (e2 dDiv (eVar 2) (eC (.int 7))) (eC (.int 3))))) (sSeq (sOwn 4 (nLst (aNil))) (sSeq (sFor (iR1 (aCons (eVar 3) (aNil))) (gN 5) (sSeq (sAsg 6 (eCall 2 M__law_seed (aCons (e2 dAdd (eCall 2 M__law_cell (aCons (eVar 0) (aCons (e2 dAdd (eVar 1) (eC (.int 1))) (aNil)))) (e2 dMul (eC (.int 41)) (eVar 5))) (aCons (eVar 5) (aNil))))) (sSeq (sAsg 7 (eCall 3 M__law_letters (aCons (eCall 2 M__law_seed (aCons (eVar 6) (aCons (eC (.int 2)) (aNil)))) (aCons (eVar 3) (aCons (e2 dMod (e2 dDiv (eVar 6) (eC (.int 7))) (eC (.int 5))) (aNil)))))) (sApp 4 (eIf (t2 dEq (e2 dMod (e2 dDiv (eVar 6) (eC (.int 11))) (eC (.int 9))) (eC (.int 0))) (eC .none) (eVar 7)))))) (sRet (eTup (aCons (e2 dAdd (eC (.int 1)) (e2 dMod (e2 dDiv (eVar 2) (eC (.int 11))) (eC (.int 3)))) (aCons (eB dTuple (aCons (eVarB 4) (aNil))) (aNil))))))))
def M__law_rules : List D → Rs D := fun ds => outD (f__law_rules (startE 8 ds))

def f__law_row : DS := sSeq (sAsg 3 (eCall 2 M__law_seed (aCons (eCall 2 M__law_cell (aCons (eVar 0) (aCons (eVar 1) (aNil)))) (aCons (eC (.int 1)) (aNil))))) (sSeq (sAsg 4 (eB dLen (aCons (e2 dIx (eVar 2) (eC (.int 1))) (aNil)))) (sSeq (sAsg 5 (e2 dIx (eFz (nLst (aCons (e2 dMod (e2 dDiv (eVar 3) (eC (.int 5))) (eC (.int 25))) (aCons (e2 dMod (e2 dDiv (eVar 3) (eC (.int 5))) (eC (.int 8))) (aCons (e2 dMul (e2 dIx (eVar 2) (eC (.int 0))) (e2 dAdd (eC (.int 1)) (e2 dMod (e2 dDiv (eVar 3) (eC (.int 5))) (eC (.int 3))))) (aNil)))))) (e2 dMod (e2 dDiv (eVar 3) (eC (.int 7))) (eC (.int 3))))) (sSeq (sAsg 6 (eCall 3 M__law_letters (aCons (eCall 2 M__law_seed (aCons (eVar 3) (aCons (eC (.int 1)) (aNil)))) (aCons (eVar 4) (aCons (eVar 5) (aNil)))))) (sSeq (sIf (t2 dEq (e2 dMod (e2 dDiv (eVar 3) (eC (.int 11))) (eC (.int 3))) (eC (.int 0))) (sSeq (sAsg 7 (eCall 3 M__law_letters (aCons (eCall 2 M__law_seed (aCons (eVar 3) (aCons (eC (.int 2)) (aNil)))) (aCons (eVar 4) (aCons (e2 dIx (eFz (nLst (aCons (e2 dIx (eVar 2) (eC (.int 0))) (aCons (eC (.int 1)) (aCons (e2 dMul (eC (.int 2)) (e2 dIx (eVar 2) (eC (.int 0)))) (aCons (eC (.int 3)) (aNil))))))) (e2 dMod (e2 dDiv (eVar 3) (eC (.int 13))) (eC (.int 4)))) (aNil)))))) (sAsg 6 (eCut (e2 dMul (eVar 7) (eC (.int 24))) (oNone) (oSome (e2 dMul (eB dLen (aCons (eVar 7) (aNil))) (e2 dAdd (eC (.int 1)) (e2 dMod (e2 dDiv (eVar 3) (eC (.int 17))) (e2 dDiv (eC (.int 24)) (eB dLen (aCons (eVar 7) (aNil))))))))))) (sNil)) (sRet (eVar 6))))))
def M__law_row : List D → Rs D := fun ds => outD (f__law_row (startE 8 ds))

def f__law_word : DS := sRet (e2 dIx (e2 dIx (eVar 0) (eC (.int 1))) (eM "str" dSIdx (eC (.str "abc")) (aCons (eVar 1) (aNil))))
def M__law_word : List D → Rs D := fun ds => outD (f__law_word (startE 2 ds))

def f__law_ended : DS := sRet (eOr (e2 dLt (eB dLen (aCons (eVar 1) (aNil))) (e2 dIx (eVar 0) (eC (.int 0)))) (e2 dIs (eCall 2 M__law_word (aCons (eVar 0) (aCons (e2 dIx (eVar 1) (eC (.int 0))) (aNil)))) (eC .none)))
def M__law_ended : List D → Rs D := fun ds => outD (f__law_ended (startE 2 ds))

def f__law_course : DS := sSeq (sOwn 3 (nLst (aCons (eVar 1) (aNil)))) (sSeq (sFor (iR1 (aCons (eVar 2) (aNil))) (gN 4) (sSeq (sIf (tTru (eCall 2 M__law_ended (aCons (eVar 0) (aCons (e2 dIx (eVarB 3) (e1 dNeg (eC (.int 1)))) (aNil))))) (sFz 3 (sRet (eVar 3))) (sNil)) (sApp 3 (e2 dAdd (eCut (e2 dIx (eVarB 3) (e1 dNeg (eC (.int 1)))) (oSome (e2 dIx (eVar 0) (eC (.int 0)))) (oNone)) (eCall 2 M__law_word (aCons (eVar 0) (aCons (e2 dIx (e2 dIx (eVarB 3) (e1 dNeg (eC (.int 1)))) (eC (.int 0))) (aNil)))))))) (sFz 3 (sRet (eVar 3))))
def M__law_course : List D → Rs D := fun ds => outD (f__law_course (startE 5 ds))

end DL
namespace DL
open PySem PySem.Spec L2
/-! ## the denotations, reckoned by simp -/
section
variable {α β : Type} {f g : DS} {fa fb fc : DEx} {ρ : En} {fs : En → Rs (List PyData)} {ga gb : En → Rs Bool}
@[simp] theorem rsb_ok (a : α) (k : α → Rs β) : Rs.bind (.ok a) k = k a := id rfl
@[simp] theorem rsb_ex (c : Str) (k : α → Rs β) : Rs.bind (.ex c) k = .ex c := id rfl
@[simp] theorem rsb_bad (k : α → Rs β) : Rs.bind (.bad) k = .bad := id rfl
@[simp] theorem rso_some (a : α) : Rs.of (some a) = .ok a := id rfl
@[simp] theorem rso_none : Rs.of (none : Option α) = .bad := id rfl
@[simp] theorem outD_rt (d : PyData) : outD (.rt d) = .ok d := id rfl
@[simp] theorem outD_nx (ρ : En) : outD (.nx ρ) = .ok .none := id rfl
@[simp] theorem outD_ex (c : Str) (ρ : En) : outD (.ex c ρ) = .ex c := id rfl
@[simp] theorem outD_bad : outD .bad = .bad := id rfl
def Fl.seq (r : Fl) (g : DS) : Fl := match r with
  | .nx ρ' => g ρ'
  | r => r
@[simp] theorem seq_nx (g : DS) : Fl.seq (.nx ρ) g = g ρ := id rfl
@[simp] theorem seq_rt (d : PyData) (g : DS) : Fl.seq (.rt d) g = .rt d := id rfl
@[simp] theorem seq_bk (g : DS) : Fl.seq (.bk ρ) g = .bk ρ := id rfl
@[simp] theorem seq_ct (g : DS) : Fl.seq (.ct ρ) g = .ct ρ := id rfl
@[simp] theorem seq_ex (c : Str) (g : DS) : Fl.seq (.ex c ρ) g = .ex c ρ := id rfl
@[simp] theorem seq_bad (g : DS) : Fl.seq .bad g = .bad := id rfl
@[simp] theorem r_sSeq : sSeq f g ρ = Fl.seq (f ρ) g := id rfl
def Fl.cond (r : Rs Bool) (ρ : En) (f g : DS) : Fl := sBind r ρ fun b => if b then f ρ else g ρ
@[simp] theorem cond_t (f g : DS) : Fl.cond (.ok true) ρ f g = f ρ := id rfl
@[simp] theorem cond_f (f g : DS) : Fl.cond (.ok false) ρ f g = g ρ := id rfl
@[simp] theorem cond_ex (c : Str) (f g : DS) : Fl.cond (.ex c) ρ f g = .ex c ρ := id rfl
@[simp] theorem cond_bad (f g : DS) : Fl.cond .bad ρ f g = .bad := id rfl
theorem cond_ok (b : Bool) (f g : DS) : Fl.cond (.ok b) ρ f g = if b = true then f ρ else g ρ := rfl
def Rs.and (r : Rs Bool) (g : En → Rs Bool) (ρ : En) : Rs Bool := r.bind fun k => if k then g ρ else .ok false
def Rs.or (r : Rs Bool) (g : En → Rs Bool) (ρ : En) : Rs Bool := r.bind fun k => if k then .ok true else g ρ
def Rs.pick (r : Rs Bool) (f g : DEx) (ρ : En) : Rs PyData := r.bind fun k => if k then f ρ else g ρ
def Rs.andV (r : Rs PyData) (f : DEx) (ρ : En) : Rs PyData := r.bind fun d => (Rs.of (dTru d)).bind fun k => if k then f ρ else .ok d
def Rs.orV (r : Rs PyData) (f : DEx) (ρ : En) : Rs PyData := r.bind fun d => (Rs.of (dTru d)).bind fun k => if k then .ok d else f ρ
def Rs.two (r s : Rs PyData) (g : PyData → PyData → Option PyData) : Rs PyData := r.bind fun a => s.bind fun b => .of (g a b)
def Rs.cons (r : Rs PyData) (s : Rs (List PyData)) : Rs (List PyData) := r.bind fun d => s.bind fun ds => .ok (d :: ds)
def Rs.call (n : Nat) (M : List PyData → Rs PyData) (r : Rs (List PyData)) : Rs PyData := r.bind fun ds => if ds.length = n then M ds else .bad
@[simp] theorem and_t (g : En → Rs Bool) : Rs.and (.ok true) g ρ = g ρ := id rfl
@[simp] theorem and_f (g : En → Rs Bool) : Rs.and (.ok false) g ρ = .ok false := id rfl
@[simp] theorem or_t (g : En → Rs Bool) : Rs.or (.ok true) g ρ = .ok true := id rfl
@[simp] theorem or_f (g : En → Rs Bool) : Rs.or (.ok false) g ρ = g ρ := id rfl
theorem and_ok (b : Bool) (g : En → Rs Bool) : Rs.and (.ok b) g ρ = if b = true then g ρ else .ok false := rfl
theorem or_ok (b : Bool) (g : En → Rs Bool) : Rs.or (.ok b) g ρ = if b = true then .ok true else g ρ := rfl
@[simp] theorem pick_t (f g : DEx) : Rs.pick (.ok true) f g ρ = f ρ := id rfl
@[simp] theorem pick_f (f g : DEx) : Rs.pick (.ok false) f g ρ = g ρ := id rfl
theorem pick_ok (b : Bool) (f g : DEx) : Rs.pick (.ok b) f g ρ = if b = true then f ρ else g ρ := rfl
@[simp] theorem andV_t (f : DEx) : Rs.andV (.ok (.bool true)) f ρ = f ρ := id rfl
@[simp] theorem andV_f (f : DEx) : Rs.andV (.ok (.bool false)) f ρ = .ok (.bool false) := id rfl
@[simp] theorem orV_t (f : DEx) : Rs.orV (.ok (.bool true)) f ρ = .ok (.bool true) := id rfl
@[simp] theorem orV_f (f : DEx) : Rs.orV (.ok (.bool false)) f ρ = f ρ := id rfl
theorem andV_ok (b : Bool) (f : DEx) : Rs.andV (.ok (.bool b)) f ρ = if b = true then f ρ else .ok (.bool false) := by cases b <;> rfl
theorem orV_ok (b : Bool) (f : DEx) : Rs.orV (.ok (.bool b)) f ρ = if b = true then .ok (.bool true) else f ρ := by cases b <;> rfl
@[simp] theorem andV_ex (c : Str) (f : DEx) : Rs.andV (.ex c) f ρ = .ex c := id rfl
@[simp] theorem orV_ex (c : Str) (f : DEx) : Rs.orV (.ex c) f ρ = .ex c := id rfl
@[simp] theorem two_ok (a b : PyData) (g : PyData → PyData → Option PyData) : Rs.two (.ok a) (.ok b) g = .of (g a b) := id rfl
@[simp] theorem two_ex (c : Str) (s : Rs PyData) (g : PyData → PyData → Option PyData) : Rs.two (.ex c) s g = .ex c := id rfl
@[simp] theorem two_ex2 (a : PyData) (c : Str) (g : PyData → PyData → Option PyData) : Rs.two (.ok a) (.ex c) g = .ex c := id rfl
@[simp] theorem cons_ok (a : PyData) (ds : List PyData) : Rs.cons (.ok a) (.ok ds) = .ok (a :: ds) := id rfl
@[simp] theorem cons_ex (c : Str) (s : Rs (List PyData)) : Rs.cons (.ex c) s = .ex c := id rfl
@[simp] theorem cons_ex2 (a : PyData) (c : Str) : Rs.cons (.ok a) (.ex c) = .ex c := id rfl
@[simp] theorem call_ok (n : Nat) (M : List PyData → Rs PyData) (ds : List PyData) : Rs.call n M (.ok ds) = if ds.length = n then M ds else .bad := id rfl
@[simp] theorem call_ex (n : Nat) (M : List PyData → Rs PyData) (c : Str) : Rs.call n M (.ex c) = .ex c := id rfl
@[simp] theorem sb_ok (a : α) (k : α → Fl) : sBind (.ok a) ρ k = k a := id rfl
@[simp] theorem sb_ex (c : Str) (k : α → Fl) : sBind (.ex c) ρ k = .ex c ρ := id rfl
@[simp] theorem sb_bad (k : α → Fl) : sBind .bad ρ k = .bad := id rfl
@[simp] theorem r_sNil : sNil ρ = .nx ρ := id rfl
@[simp] theorem r_sExpr : sExpr fa ρ = sBind (fa ρ) ρ fun _ => .nx ρ := id rfl
@[simp] theorem r_sRet : sRet fa ρ = sBind (fa ρ) ρ fun d => .rt d := id rfl
@[simp] theorem r_sIf : sIf ga f g ρ = Fl.cond (ga ρ) ρ f g := id rfl
@[simp] theorem r_sAsg (i : Nat) : sAsg i fa ρ = sBind (fa ρ) ρ fun d => .nx (ρ.set i (some (.fz d))) := id rfl
@[simp] theorem r_sOwn (i : Nat) : sOwn i fs ρ = sBind (fs ρ) ρ fun d => .nx (ρ.set i (some (.own d))) := id rfl
@[simp] theorem r_sRaise (c : Str) : sRaise c ρ = .ex c ρ := id rfl
@[simp] theorem r_sBreak : sBreak ρ = .bk ρ := id rfl
@[simp] theorem r_sPass : sPass ρ = .nx ρ := id rfl
@[simp] theorem r_sFz (i : Nat) : sFz i f ρ = f (fzAt i ρ) := id rfl
@[simp] theorem r_sAft (i : Nat) : sAft i f ρ = match f ρ with | .nx ρ' => .nx (fzAt i ρ') | r => r := id rfl
@[simp] theorem r_fzAt (i : Nat) : fzAt i ρ = match ρ[i]? with | some (some (.own ds)) => ρ.set i (some (.fz (.list ds))) | _ => ρ := id rfl
@[simp] theorem r_ownAt (i : Nat) : ownAt ρ i = match ρ[i]? with | some (some (.own ds)) => .ok ds | _ => .bad := id rfl
@[simp] theorem r_sApp (i : Nat) : sApp i fa ρ = sBind (ownAt ρ i) ρ fun ds => sBind (fa ρ) ρ fun d => if ds.length < sizeLine then .nx (ρ.set i (some (.own (ds ++ [d])))) else .bad := id rfl
@[simp] theorem r_sFor {fi : En → Rs (List PyData)} {gt : Tgt} : sFor fi gt f ρ = sBind (fi ρ) ρ fun ds => forL gt f ds ρ := id rfl
@[simp] theorem r_sWhile (n : Nat) : sWhile n ga f ρ = whileN ga f n ρ := id rfl
@[simp] theorem r_sAug (i : Nat) {g2 : PyData → PyData → Option PyData} : sAug i g2 fa ρ = sBind (eVar i ρ) ρ fun a => sBind (fa ρ) ρ fun b => sBind (Rs.of (g2 a b)) ρ fun d => .nx (ρ.set i (some (.fz d))) := id rfl
@[simp] theorem r_sPar (i j : Nat) : sPar i j fs ρ = sBind (fs ρ) ρ fun ds => match ds with | [a, b] => .nx ((ρ.set i (some (.fz a))).set j (some (.fz b))) | _ => .bad := id rfl
@[simp] theorem r_eVar (i : Nat) : eVar i ρ = match ρ[i]? with | some (some (.fz d)) => .ok d | _ => .bad := id rfl
@[simp] theorem r_eVarB (i : Nat) : eVarB i ρ = match ρ[i]? with | some (some (.fz d)) => .ok d | some (some (.own ds)) => .ok (.list ds) | _ => .bad := id rfl
@[simp] theorem r_eC (d : PyData) : eC d ρ = .ok d := id rfl
@[simp] theorem r_e1 (g : PyData → Option PyData) : e1 g fa ρ = (fa ρ).bind fun d => .of (g d) := id rfl
@[simp] theorem r_e2 (g : PyData → PyData → Option PyData) : e2 g fa fb ρ = Rs.two (fa ρ) (fb ρ) g := id rfl
@[simp] theorem r_t2 (g : PyData → PyData → Option PyData) : t2 g fa fb ρ = (e2 g fa fb ρ).bind dBool := id rfl
@[simp] theorem r_dBool (b : Bool) : dBool (.bool b) = .ok b := id rfl
@[simp] theorem r_e3 (g g' : PyData → PyData → Option PyData) : e3 g g' fa fb fc ρ = (fa ρ).bind fun a => (fb ρ).bind fun b => (Rs.of (g a b)).bind fun k => match k with | .bool true => (fc ρ).bind fun c => .of (g' b c) | .bool false => .ok (.bool false) | _ => .bad := id rfl
@[simp] theorem r_t3 (g g' : PyData → PyData → Option PyData) : t3 g g' fa fb fc ρ = (e3 g g' fa fb fc ρ).bind dBool := id rfl
@[simp] theorem r_tAnd : tAnd ga gb ρ = Rs.and (ga ρ) gb ρ := id rfl
@[simp] theorem r_tOr : tOr ga gb ρ = Rs.or (ga ρ) gb ρ := id rfl
@[simp] theorem r_tNot : tNot ga ρ = (ga ρ).bind fun k => .ok (!k) := id rfl
@[simp] theorem r_tTru : tTru fa ρ = (fa ρ).bind fun d => .of (dTru d) := id rfl
@[simp] theorem r_eAnd : eAnd fa fb ρ = Rs.andV (fa ρ) fb ρ := id rfl
@[simp] theorem r_eOr : eOr fa fb ρ = Rs.orV (fa ρ) fb ρ := id rfl
@[simp] theorem r_eNot : eNot fa ρ = (fa ρ).bind fun d => (Rs.of (dTru d)).bind fun k => .ok (.bool (!k)) := id rfl
@[simp] theorem r_eIf : eIf ga fa fb ρ = Rs.pick (ga ρ) fa fb ρ := id rfl
@[simp] theorem r_eFz : eFz fs ρ = (fs ρ).bind fun ds => .ok (.list ds) := id rfl
@[simp] theorem r_aNil : aNil ρ = .ok [] := id rfl
@[simp] theorem r_aCons : aCons fa fs ρ = Rs.cons (fa ρ) (fs ρ) := id rfl
@[simp] theorem r_eTup : eTup fs ρ = (fs ρ).bind fun ds => if ds.length ≤ sizeLine then .ok (.tuple ds) else .bad := id rfl
@[simp] theorem r_nLst : nLst fs ρ = (fs ρ).bind fun ds => if ds.length ≤ sizeLine then .ok ds else .bad := id rfl
@[simp] theorem r_eB (g : List PyData → Option PyData) : eB g fs ρ = (fs ρ).bind fun ds => .of (g ds) := id rfl
@[simp] theorem r_nB (g : List PyData → Option (List PyData)) : nB g fs ρ = (fs ρ).bind fun ds => .of (g ds) := id rfl
@[simp] theorem r_eIsi (T : String) : eIsi T fa ρ = (fa ρ).bind fun d => if tyD d = "dict" then .bad else .ok (.bool (isiD T d)) := id rfl
@[simp] theorem r_eM (T : String) (g : PyData → List PyData → Option PyData) : eM T g fa fs ρ = (fa ρ).bind fun o => if tyD o = T then (fs ρ).bind fun ds => .of (g o ds) else .bad := id rfl
@[simp] theorem r_eCall (n : Nat) (M : List PyData → Rs PyData) : eCall n M fs ρ = Rs.call n M (fs ρ) := id rfl
@[simp] theorem r_oNone : oNone ρ = .ok none := id rfl
@[simp] theorem r_oSome : oSome fa ρ = (fa ρ).bind fun d => (dInt d).bind fun i => .ok (some i) := id rfl
@[simp] theorem r_dInt (i : Int) : dInt (.int i) = .ok i := id rfl
@[simp] theorem r_eCut {fl fh : En → Rs (Option Int)} : eCut fa fl fh ρ = (fa ρ).bind fun d => (fl ρ).bind fun l => (fh ρ).bind fun h => .of (dCut l h d) := id rfl
@[simp] theorem r_iSeq : iSeq fa ρ = (fa ρ).bind fun d => .of (seqD d) := id rfl
def inR (j : Int) : Bool := decide (-(2 ^ 62) ≤ j ∧ j < 2 ^ 62)
theorem inR_of {j : Int} (h1 : -1000000 ≤ j) (h2 : j ≤ 1000000) : inR j = true := by unfold inR; rw [decide_eq_true_eq]; omega
def rng1 : List PyData → Rs (List PyData)
  | [.int j] => if inR j = true then .ok (rangeD 0 j.toNat) else .bad
  | _ => .bad
def rng2 : List PyData → Rs (List PyData)
  | [.int i, .int j] => if (inR i && inR j) = true then .ok (rangeD i (j - i).toNat) else .bad
  | _ => .bad
@[simp] theorem rng1_int (j : Int) : rng1 [.int j] = if inR j = true then .ok (rangeD 0 j.toNat) else .bad := id rfl
@[simp] theorem rng2_int (i j : Int) : rng2 [.int i, .int j] = if (inR i && inR j) = true then .ok (rangeD i (j - i).toNat) else .bad := id rfl
@[simp] theorem r_iR1 : iR1 fs ρ = (fs ρ).bind rng1 := by
  unfold iR1
  congr 1
  funext ds
  unfold rng1 inR
  split <;> simp
@[simp] theorem r_iR2 : iR2 fs ρ = (fs ρ).bind rng2 := by
  unfold iR2
  congr 1
  funext ds
  unfold rng2 inR
  split <;> simp
  congr 1
  rw [eq_iff_iff]
  constructor
  · rintro ⟨a, b, c, d⟩; exact ⟨⟨a, b⟩, c, d⟩
  · rintro ⟨⟨a, b⟩, c, d⟩; exact ⟨a, b, c, d⟩
@[simp] theorem r_nLc {vs : List Nat} {fi : En → Rs (List PyData)} {gt : Tgt} {tt : En → Rs Bool} : nLc vs fi gt tt fa ρ = (fi ρ).bind fun ds => if ds.length ≤ sizeLine then (match lcL gt tt fa (wipeE ρ vs) ds with | .ok ys => .ok ys | _ => .bad) else .bad := id rfl
@[simp] theorem r_wipe1 (v : Nat) : wipeE ρ [v] = ρ.set v none := id rfl
@[simp] theorem r_wipe2 (v w : Nat) : wipeE ρ [v, w] = (ρ.set w none).set v none := id rfl
@[simp] theorem r_gN (i : Nat) (d : PyData) : gN i d ρ = some (ρ.set i (some (.fz d))) := id rfl
@[simp] theorem r_gN2 (i j : Nat) (a b : PyData) : gN2 i j (.tuple [a, b]) ρ = some ((ρ.set i (some (.fz a))).set j (some (.fz b))) := id rfl
@[simp] theorem r_tTrue : tTrue ρ = .ok true := id rfl
end
section
variable (i j : Int) (a b : Str) (x y : Bool) (ds es : List PyData)
@[simp] theorem v_add1 : dAdd (.int i) (.int j) = some (.int (i + j)) := id rfl
@[simp] theorem v_add2 : dAdd (.str a) (.str b) = if a.length + b.length ≤ sizeLine then some (.str (a ++ b)) else none := id rfl
@[simp] theorem v_add3 : dAdd (.list ds) (.list es) = if ds.length + es.length ≤ sizeLine then some (.list (ds ++ es)) else none := id rfl
@[simp] theorem v_sub1 : dSub (.int i) (.int j) = some (.int (i - j)) := id rfl
@[simp] theorem v_mul1 : dMul (.int i) (.int j) = if (-(2 ^ 64) < j ∧ j < 2 ^ 64) ∨ (-(2 ^ 64) < i ∧ i < 2 ^ 64) then some (.int (i * j)) else none := id rfl
@[simp] theorem v_mul2 : dMul (.str a) (.int j) = if -(2 ^ 63) ≤ j ∧ j < 2 ^ 63 ∧ a.length * j.toNat ≤ sizeLine then some (.str (strRep a j)) else none := id rfl
@[simp] theorem v_div : dDiv (.int i) (.int j) = if 0 < j ∧ j < 1073741824 then some (.int (i / j)) else none := id rfl
@[simp] theorem v_mod : dMod (.int i) (.int j) = if 0 < j then some (.int (i % j)) else none := id rfl
@[simp] theorem v_pow : dPow (.int i) (.int j) = if 0 ≤ j ∧ j ≤ 1000000 ∧ i.natAbs < 2 ^ 64 then some (.int (i ^ j.toNat)) else none := id rfl
@[simp] theorem v_lt : dLt (.int i) (.int j) = some (.bool (decide (i < j))) := id rfl
@[simp] theorem v_le : dLe (.int i) (.int j) = some (.bool (decide (i ≤ j))) := id rfl
@[simp] theorem v_gt : dGt (.int i) (.int j) = some (.bool (decide (j < i))) := id rfl
@[simp] theorem v_ge : dGe (.int i) (.int j) = some (.bool (decide (j ≤ i))) := id rfl
@[simp] theorem v_neg : dNeg (.int i) = some (.int (-i)) := id rfl
@[simp] theorem v_tru1 : dTru .none = some false := id rfl
@[simp] theorem v_tru2 : dTru (.bool x) = some x := id rfl
@[simp] theorem v_tru3 : dTru (.int i) = some (i != 0) := id rfl
@[simp] theorem v_tru4 : dTru (.str a) = some ((a.length : Int) != 0) := id rfl
@[simp] theorem v_tru5 : dTru (.list ds) = some (!ds.isEmpty) := id rfl
@[simp] theorem v_tru6 : dTru (.tuple ds) = some (!ds.isEmpty) := id rfl
@[simp] theorem v_len1 : dLen [.str a] = some (.int a.length) := id rfl
@[simp] theorem v_len2 : dLen [.list ds] = some (.int ds.length) := id rfl
@[simp] theorem v_len3 : dLen [.tuple ds] = some (.int ds.length) := id rfl
@[simp] theorem v_ix1 : dIx (.list ds) (.int i) = atI ds i := id rfl
@[simp] theorem v_ix2 : dIx (.tuple ds) (.int i) = atI ds i := id rfl
@[simp] theorem v_ix3 : dIx (.str a) (.int i) = (atI a.cps.toList i).map fun c => .str ⟨#[c]⟩ := id rfl
@[simp] theorem v_eq1 : dEq (.int i) (.int j) = some (.bool (decide (i = j))) := by simp [dEq, scalD, PyData.eqv, Bool.beq_eq_decide_eq]
@[simp] theorem v_eq2 : dEq (.str a) (.str b) = some (.bool (decide (a = b))) := by simp [dEq, scalD, PyData.eqv, Bool.beq_eq_decide_eq]
@[simp] theorem v_ne1 : dNe (.int i) (.int j) = some (.bool (!decide (i = j))) := by simp [dNe, scalD, PyData.eqv, Bool.beq_eq_decide_eq]
@[simp] theorem v_ne2 : dNe (.str a) (.str b) = some (.bool (!decide (a = b))) := by simp [dNe, scalD, PyData.eqv, Bool.beq_eq_decide_eq]
@[simp] theorem v_is1 : dIs .none .none = some (.bool true) := id rfl
@[simp] theorem v_is2 : dIs (.str a) .none = some (.bool false) := id rfl
@[simp] theorem v_is3 : dIs (.int i) .none = some (.bool false) := id rfl
@[simp] theorem v_is4 : dIs (.tuple ds) .none = some (.bool false) := id rfl
@[simp] theorem v_is5 : dIs (.list ds) .none = some (.bool false) := id rfl
@[simp] theorem v_is6 : dIs (.bool x) (.bool y) = some (.bool (decide (x = y))) := id rfl
@[simp] theorem v_isn1 : dIsNot .none .none = some (.bool false) := id rfl
@[simp] theorem v_isn2 : dIsNot (.str a) .none = some (.bool true) := id rfl
@[simp] theorem v_isn3 : dIsNot (.int i) .none = some (.bool true) := id rfl
@[simp] theorem v_isn4 : dIsNot (.tuple ds) .none = some (.bool true) := id rfl
@[simp] theorem v_isn5 : dIsNot (.list ds) .none = some (.bool true) := id rfl
@[simp] theorem v_isn6 : dIsNot (.bool x) (.bool y) = some (.bool (!decide (x = y))) := id rfl
@[simp] theorem v_ty1 : tyD .none = "NoneType" := id rfl
@[simp] theorem v_ty2 : tyD (.bool x) = "bool" := id rfl
@[simp] theorem v_ty3 : tyD (.int i) = "int" := id rfl
@[simp] theorem v_ty4 : tyD (.str a) = "str" := id rfl
@[simp] theorem v_ty5 : tyD (.list ds) = "list" := id rfl
@[simp] theorem v_ty6 : tyD (.tuple ds) = "tuple" := id rfl
@[simp] theorem v_isi (T : String) (d : PyData) : isiD T d = (tyD d == T || (T == "int" && tyD d == "bool")) := id rfl
@[simp] theorem v_cut1 (l h : Option Int) : dCut l h (.str a) = some (.str (cutS a l h)) := id rfl
@[simp] theorem v_cut2 (l h : Option Int) : dCut l h (.list ds) = some (.list (cutL ds l h)) := id rfl
@[simp] theorem v_seq1 : seqD (.list ds) = some ds := id rfl
@[simp] theorem v_seq2 : seqD (.tuple ds) = some ds := id rfl
@[simp] theorem v_seq3 : seqD (.str a) = some (signs a) := id rfl
@[simp] theorem v_tup1 : dTuple [.list ds] = some (.tuple ds) := id rfl
@[simp] theorem v_tup2 : dTuple [.tuple ds] = some (.tuple ds) := id rfl
@[simp] theorem v_lst1 : dList [.list ds] = some ds := id rfl
@[simp] theorem v_lst2 : dList [.tuple ds] = some ds := id rfl
end
theorem size1 {n : Nat} (h : n ≤ 16777216) : n ≤ sizeLine := by rw [sizeLine_eq]; exact h
@[simp] theorem atI_zero {α : Type} (x : α) (l : List α) : atI (x :: l) 0 = some x := by simp [atI, ixN]
@[simp] theorem atI_one {α : Type} (x y : α) (l : List α) : atI (x :: y :: l) 1 = some y := by
  unfold atI ixN
  rw [if_pos (by omega), if_pos (by simp; omega)]; rfl
/-! ## texts by their codes -/
def S (l : List Nat) : Str := ⟨l.toArray⟩
@[simp] theorem S_cps (l : List Nat) : (S l).cps.toList = l := by simp [S]
@[simp] theorem S_len (l : List Nat) : (S l).length = l.length := by rw [str_length, S_cps]
@[simp] theorem S_app (a b : List Nat) : S a ++ S b = S (a ++ b) := by apply str_ext; rw [append_cps]; simp
@[simp] theorem S_inj {a b : List Nat} : S a = S b ↔ a = b := ⟨fun h => by rw [← S_cps a, h, S_cps], fun h => by rw [h]⟩
theorem S_abc : (Str.ofString "abc") = S [97, 98, 99] := by decide +kernel
@[simp] theorem S_one (c : Nat) : (⟨#[c]⟩ : Str) = S [c] := id rfl
@[simp] theorem S_signs (l : List Nat) : signs (S l) = l.map fun c => .str (S [c]) := by simp [signs]
/-! ## rules and rows -/
structure Ru where
  cut : Nat
  ws : List (Option (List Nat))
def Lt (n : Nat) (l : List Nat) : Prop := ∀ c ∈ l, 97 ≤ c ∧ c < 97 + n
structure Ru.Ok (r : Ru) : Prop where
  c1 : 1 ≤ r.cut
  c3 : r.cut ≤ 3
  n1 : 1 ≤ r.ws.length
  n3 : r.ws.length ≤ 3
  w : ∀ x, some x ∈ r.ws → x.length ≤ 4 ∧ Lt r.ws.length x
def wD : Option (List Nat) → PyData
  | none => .none
  | some l => .str (S l)
def rD (r : Ru) : PyData := .tuple [.int r.cut, .tuple (r.ws.map wD)]
@[simp] theorem rD_0 (r : Ru) : dIx (rD r) (.int 0) = some (.int r.cut) := id rfl
@[simp] theorem rD_1 (r : Ru) : dIx (rD r) (.int 1) = some (.tuple (r.ws.map wD)) := by simp [rD]
@[simp] theorem rD_ty (r : Ru) : tyD (rD r) = "tuple" := id rfl
@[simp] theorem rD_len (r : Ru) : dLen [rD r] = some (.int 2) := id rfl
abbrev sD (l : List Nat) : PyData := .str (S l)
def wordOf (r : Ru) (c : Nat) : Option (List Nat) := (r.ws[c - 97]?).getD none
def ended (r : Ru) (l : List Nat) : Bool := decide (l.length < r.cut) || (wordOf r (l.headD 0)).isNone
def next (r : Ru) (l : List Nat) : List Nat := l.drop r.cut ++ (wordOf r (l.headD 0)).getD []
theorem idx_abc {c : Nat} (h1 : 97 ≤ c) (h2 : c < 100) : dSIdx (.str (Str.ofString "abc")) [sD [c]] = some (.int ((c - 97 : Nat) : Int)) := by
  have : c = 97 ∨ c = 98 ∨ c = 99 := by omega
  have e : ∀ k : Nat, k < 3 → Builtin.Str.occurrences (Str.ofString "abc") (S [97 + k]) 0 (Str.ofString "abc").length 1 = [k] := by decide +kernel
  have key : ∀ k : Nat, k < 3 → dSIdx (.str (Str.ofString "abc")) [sD [97 + k]] = some (.int (k : Int)) := fun k hk => by
    show (match Builtin.Str.occurrences (Str.ofString "abc") (S [97 + k]) 0 (Str.ofString "abc").length 1 with
      | i :: _ => some (PyData.int (i : Nat))
      | [] => none) = _
    rw [e k hk]
  rcases this with rfl | rfl | rfl
  · exact key 0 (by decide)
  · exact key 1 (by decide)
  · exact key 2 (by decide)
theorem M_word_of_eq {r : Ru} (ok : r.Ok) {c : Nat} (h1 : 97 ≤ c) (h2 : c < 97 + r.ws.length) : M_word_of [rD r, sD [c]] = .ok (wD (wordOf r c)) := by
  have h3 := ok.n3
  have hx := idx_abc h1 (by omega)
  have hi : c - 97 < r.ws.length := by omega
  simp [M_word_of, f_word_of, startE, hx]
  rw [atI_nat (v := wD (wordOf r c))]
  · rfl
  · rw [List.getElem?_map, List.getElem?_eq_getElem hi]
    simp [wordOf, hi]
theorem M_has_ended_eq {r : Ru} (ok : r.Ok) {l : List Nat} (h : Lt r.ws.length l) : M_has_ended [rD r, sD l] = .ok (.bool (ended r l)) := by
  have hw := fun {c : Nat} => M_word_of_eq ok (c := c)
  have h0 := ok.c1
  by_cases hl : l.length < r.cut
  · simp [M_has_ended, f_has_ended, startE, ended, hl]
  · cases l with
    | nil => exact absurd h0 hl
    | cons c l =>
      obtain ⟨h1, h2⟩ := h c (by simp)
      have hl' : ¬ l.length + 1 < r.cut := hl
      have hl2 : ¬ ((l.length : Int) + 1 < r.cut) := by omega
      simp [M_has_ended, f_has_ended, startE, hl2, hw h1 h2]
      cases q : wordOf r c <;> simp [wD, q, ended, hl']
end DL
namespace DL
open PySem PySem.Spec L2
theorem lcL_map {α : Type} {tt : En → Rs Bool} {fe : DEx} {ρ : En} {i : Nat} (φ : α → PyData) (p : α → Bool) (h : α → PyData) : ∀ (l : List α),
    (∀ a ∈ l, tt (ρ.set i (some (.fz (φ a)))) = .ok (p a) ∧ (p a = true → fe (ρ.set i (some (.fz (φ a)))) = .ok (h a))) → lcL (gN i) tt fe ρ (l.map φ) = .ok ((l.filter p).map h)
  | [], _ => rfl
  | a :: l, H => by
    obtain ⟨h1, h2⟩ := H a (by simp)
    have ih := lcL_map φ p h l fun b hb => H b (by simp [hb])
    simp only [List.map_cons, lcL, r_gN, h1, rsb_ok]
    cases q : p a with
    | true => simp [h2 q, ih, q]
    | false => simp [ih, q]
theorem lcL_all {α : Type} {fe : DEx} {ρ : En} {i : Nat} (φ : α → PyData) (h : α → PyData) (l : List α)
    (H : ∀ a ∈ l, fe (ρ.set i (some (.fz (φ a)))) = .ok (h a)) : lcL (gN i) tTrue fe ρ (l.map φ) = .ok (l.map h) := by
  have := lcL_map (tt := tTrue) (fe := fe) (ρ := ρ) (i := i) φ (fun _ => true) h l fun a ha => ⟨rfl, fun _ => H a ha⟩
  rw [List.filter_eq_self.mpr (by simp)] at this
  exact this
theorem sIx_some (n d k : Nat) : HT.sIx n d (some (k : Int)) = min k n := HT.sIx_nat n d k
theorem cutS_from (l : List Nat) (k : Nat) : cutS (S l) (some (k : Int)) none = S (l.drop k) := by
  apply str_ext
  simp only [cutS, S_len, S_cps, HT.sIx_nat, HT.sIx_none, List.toList_toArray]
  rw [List.take_of_length_le (by simp)]
  by_cases h : k ≤ l.length
  · rw [Nat.min_eq_left h]
  · rw [Nat.min_eq_right (by omega), List.drop_of_length_le (Nat.le_refl _), List.drop_of_length_le (by omega)]
theorem cutS_to (l : List Nat) (k : Nat) : cutS (S l) none (some (k : Int)) = S (l.take k) := by
  apply str_ext
  simp only [cutS, S_len, S_cps, HT.sIx_nat, HT.sIx_none, List.toList_toArray, List.drop_zero, Nat.sub_zero]
  by_cases h : k ≤ l.length
  · rw [Nat.min_eq_left h]
  · rw [Nat.min_eq_right (by omega), List.take_of_length_le (Nat.le_refl _), List.take_of_length_le (by omega)]
theorem cut_abc {n : Nat} (h : n ≤ 3) : cutS (Str.ofString "abc") none (some (n : Int)) = S ([97, 98, 99].take n) := by rw [S_abc, cutS_to]
theorem mem_abc {n c : Nat} (h : n ≤ 3) : c ∈ [97, 98, 99].take n ↔ 97 ≤ c ∧ c < 97 + n := by
  have : n = 0 ∨ n = 1 ∨ n = 2 ∨ n = 3 := by omega
  rcases this with rfl | rfl | rfl | rfl <;> simp <;> omega
theorem v_in_sign (c : Nat) (l : List Nat) : dIn (.str (S [c])) (.str (S l)) = some (.bool (decide (c ∈ l))) := by simp [dIn]
theorem v_notin_sign (c : Nat) (l : List Nat) : dNotIn (.str (S [c])) (.str (S l)) = some (.bool (!decide (c ∈ l))) := by simp [dNotIn, v_in_sign, dNot]
/-! ### whether things are numbers, words -/
theorem M_is_within_int (i lo hi : Int) : M_is_within [.int i, .int lo, .int hi] = .ok (.bool (decide (lo ≤ i ∧ i ≤ hi))) := by
  simp [M_is_within, f_is_within, startE]
  by_cases h1 : lo ≤ i
  · by_cases h2 : i ≤ hi <;> simp [h1, h2]
  · simp [h1]
def wordOk (n m : Nat) (l : List Nat) : Bool := decide (l.length ≤ m) && l.all fun c => decide (97 ≤ c ∧ c < 97 + n)
theorem wordOk_of {n m : Nat} {l : List Nat} (h : Lt n l) (h2 : l.length ≤ m) : wordOk n m l = true := by
  simp [wordOk, h2]
  exact h
theorem M_is_word_str {n m : Nat} {l : List Nat} (hn : n ≤ 3) (hm : m ≤ 1000) : M_is_word [.int n, sD l, .int m] = .ok (.bool (wordOk n m l)) := by
  by_cases hl : m < l.length
  · have : ¬ l.length ≤ m := by omega
    simp [M_is_word, f_is_word, startE, hl, wordOk, this]
  · have h2 : l.length ≤ m := by omega
    have hs : l.length ≤ sizeLine := size1 (by omega)
    simp [M_is_word, f_is_word, startE, hl, hs]
    rw [lcL_map (fun c => .str (S [c])) (fun c => !decide (c ∈ [97, 98, 99].take n)) (fun c => .str (S [c])) l]
    · simp [wordOk, h2]
      rw [Bool.eq_iff_iff]
      simp [mem_abc hn]
    · intro c _
      simp [cut_abc hn, v_notin_sign]
theorem wordOf_ok {r : Ru} (ok : r.Ok) {c : Nat} {x : List Nat} (h : wordOf r c = some x) : x.length ≤ 4 ∧ Lt r.ws.length x := by
  refine ok.w x ?_
  unfold wordOf at h
  cases q : r.ws[c - 97]? with
  | none => rw [q] at h; cases h
  | some y => rw [q] at h; simp at h; subst h; exact List.mem_of_getElem? q
theorem Lt.drop {n : Nat} {l : List Nat} (h : Lt n l) (k : Nat) : Lt n (l.drop k) := fun c hc => h c (List.mem_of_mem_drop hc)
theorem Lt.take {n : Nat} {l : List Nat} (h : Lt n l) (k : Nat) : Lt n (l.take k) := fun c hc => h c (List.mem_of_mem_take hc)
theorem Lt.append {n : Nat} {a b : List Nat} (h : Lt n a) (h2 : Lt n b) : Lt n (a ++ b) := fun c hc => (List.mem_append.mp hc).elim (h c) (h2 c)
theorem Lt.next {r : Ru} (ok : r.Ok) {l : List Nat} (h : Lt r.ws.length l) : Lt r.ws.length (next r l) := by
  unfold DL.next
  refine (h.drop _).append ?_
  cases q : wordOf r (l.headD 0) with
  | none => intro c hc; simp at hc
  | some x => exact (wordOf_ok ok q).2
theorem next_len {r : Ru} (ok : r.Ok) (l : List Nat) : (next r l).length ≤ l.length + 4 := by
  unfold next
  have : ((wordOf r (l.headD 0)).getD []).length ≤ 4 := by
    cases q : wordOf r (l.headD 0) with
    | none => simp
    | some x => exact (wordOf_ok ok q).1
  rw [List.length_append, List.length_drop]
  omega
theorem M_next_of_eq {r : Ru} (ok : r.Ok) {l : List Nat} (h : Lt r.ws.length l) (he : ended r l = false) (hs : l.length ≤ 10000000) : M_next_of [rD r, sD l] = .ok (sD (next r l)) := by
  have h0 := ok.c1
  simp only [ended, Bool.or_eq_false_iff, decide_eq_false_iff_not] at he
  cases l with
  | nil => simp at he; omega
  | cons c l =>
    obtain ⟨h1, h2⟩ := h c (by simp)
    have hw := M_word_of_eq ok h1 h2
    cases q : wordOf r c with
    | none => simp [q] at he
    | some x =>
      have hx := wordOf_ok ok q
      rw [q] at hw
      have hb : ((c :: l).drop r.cut).length + x.length ≤ sizeLine := size1 (by
        have := hx.1
        rw [List.length_drop]
        omega)
      simp only [List.length_drop, List.length_cons] at hb
      simp [M_next_of, f_next_of, startE, hw, wD, cutS_from, hb, next, q]
theorem M_is_rules_ok {r : Ru} (ok : r.Ok) : M_is_rules [rD r] = .ok (.bool true) := by
  have h1 := ok.c1
  have h2 := ok.c3
  have h3 := ok.n1
  have h4 := ok.n3
  have hc : (1 : Int) ≤ r.cut ∧ (r.cut : Int) ≤ 3 := by omega
  have hs : r.ws.length ≤ sizeLine := size1 (by omega)
  have e3 : (Str.ofString "abc").length = 3 := by decide +kernel
  have hn1 : (1 : Int) ≤ r.ws.length := by omega
  have hn3 : (r.ws.length : Int) ≤ 3 := by omega
  simp [M_is_rules, f_is_rules, startE, M_is_within_int, hc, hs, e3, hn1, hn3]
  rw [lcL_map wD (fun _ => false) wD r.ws]
  · simp
  · intro x hx
    refine ⟨?_, fun z => by cases z⟩
    cases x with
    | none => simp [wD]
    | some l =>
      obtain ⟨k1, k2⟩ := ok.w l hx
      simp [wD]
      rw [show (4 : Int) = ((4 : Nat) : Int) from rfl, M_is_word_str h4 (by omega), wordOk_of k2 k1]
      simp
theorem M_look_ok {r : Ru} (ok : r.Ok) : M_look [rD r] = .ok .none := by
  simp [M_look, f_look, startE, M_is_rules_ok ok]
def rowOk (r : Ru) (l : List Nat) : Prop := Lt r.ws.length l ∧ l.length ≤ 24
theorem M_look_row_ok {r : Ru} (ok : r.Ok) {l : List Nat} (h : rowOk r l) : M_look_row [rD r, sD l] = .ok .none := by
  have hw : M_is_word [.int (r.ws.length : Nat), sD l, .int 24] = .ok (.bool true) := by
    rw [show (24 : Int) = ((24 : Nat) : Int) from rfl, M_is_word_str ok.n3 (by omega), wordOk_of h.1 h.2]
  have hr : M_is_row [rD r, sD l] = .ok (.bool true) := by
    simp [M_is_row, f_is_row, startE, hw]
  simp [M_look_row, f_look_row, startE, M_look_ok ok, hr]
/-! ### courses -/
def iter (r : Ru) : List Nat → Nat → Option (List Nat)
  | l, 0 => some l
  | l, n + 1 => if ended r l then none else iter r (next r l) n
def courseM (r : Ru) : List Nat → Nat → List (List Nat)
  | l, 0 => [l]
  | l, n + 1 => if ended r l then [l] else l :: courseM r (next r l) n
theorem M_is_ended_eq {r : Ru} (ok : r.Ok) {l : List Nat} (h : rowOk r l) : M_is_ended [rD r, sD l] = .ok (.bool (ended r l)) := by
  simp [M_is_ended, f_is_ended, startE, M_look_row_ok ok h, M_has_ended_eq ok h.1]
theorem M_next_row_eq {r : Ru} (ok : r.Ok) {l : List Nat} (h : rowOk r l) : M_next_row [rD r, sD l] = if ended r l then .ex "Ended" else .ok (sD (next r l)) := by
  have h2 := h.2
  cases q : ended r l with
  | true => simp [M_next_row, f_next_row, startE, M_look_row_ok ok h, M_has_ended_eq ok h.1, q]
  | false => simp [M_next_row, f_next_row, startE, M_look_row_ok ok h, M_has_ended_eq ok h.1, q, M_next_of_eq ok h.1 q (by omega)]
def afterBody : DS := sSeq (sIf (tTru (eCall 2 M_has_ended (aCons (eVar 0) (aCons (eVar 1) (aNil))))) (sRaise "Ended") (sNil)) (sAsg 1 (eCall 2 M_next_of (aCons (eVar 0) (aCons (eVar 1) (aNil)))))
theorem after_loop {r : Ru} (ok : r.Ok) (m : PyData) : ∀ (ds : List PyData) (l : List Nat) (t : Option LV), Lt r.ws.length l → l.length + 4 * ds.length ≤ 10000000 →
    (∃ l' t', iter r l ds.length = some l' ∧ forL (gN 3) afterBody ds [some (.fz (rD r)), some (.fz (sD l)), some (.fz m), t] = .nx [some (.fz (rD r)), some (.fz (sD l')), some (.fz m), t']) ∨
    (iter r l ds.length = none ∧ ∃ ρ, forL (gN 3) afterBody ds [some (.fz (rD r)), some (.fz (sD l)), some (.fz m), t] = .ex "Ended" ρ)
  | [], l, t, _, _ => .inl ⟨l, t, rfl, rfl⟩
  | d :: ds, l, t, h, hl => by
    simp only [List.length_cons] at hl
    cases q : ended r l with
    | true =>
      refine .inr ⟨by simp [iter, q], [some (.fz (rD r)), some (.fz (sD l)), some (.fz m), some (.fz d)], ?_⟩
      simp [forL, afterBody, M_has_ended_eq ok h, q]
    | false =>
      have hn := M_next_of_eq ok h q (by omega)
      have ln := next_len ok l
      have ih := after_loop ok m ds (next r l) (some (.fz d)) (h.next ok) (by omega)
      have e : forL (gN 3) afterBody (d :: ds) [some (.fz (rD r)), some (.fz (sD l)), some (.fz m), t] = forL (gN 3) afterBody ds [some (.fz (rD r)), some (.fz (sD (next r l))), some (.fz m), some (.fz d)] := by
        simp [forL, afterBody, M_has_ended_eq ok h, q, hn]
      have ei : iter r l (d :: ds).length = iter r (next r l) ds.length := by simp [iter, q]
      rw [e, ei]
      exact ih
theorem rangeD_len (lo : Int) (n : Nat) : (rangeD lo n).length = n := by simp [rangeD]
theorem M_after_eq {r : Ru} (ok : r.Ok) {l : List Nat} (h : rowOk r l) {n : Nat} (hn : n ≤ 200) : M_after [rD r, sD l, .int n] = match iter r l n with
    | some l' => .ok (sD l')
    | none => .ex "Ended" := by
  have hw : M_is_within [.int n, .int 0, .int 200] = .ok (.bool true) := by rw [M_is_within_int]; simp; omega
  have hr : inR (n : Int) = true := inR_of (by omega) (by omega)
  have h2 := h.2
  have lp := after_loop ok (.int n) (rangeD 0 n) l none h.1 (by rw [rangeD_len]; omega)
  rw [rangeD_len] at lp
  have e : M_after [rD r, sD l, .int n] = outD (Fl.seq (forL (gN 3) afterBody (rangeD 0 n) [some (.fz (rD r)), some (.fz (sD l)), some (.fz (.int n)), none]) (sRet (eVar 1))) := by
    simp [M_after, f_after, startE, M_look_row_ok ok h, hw, hr, afterBody]
  rw [e]
  rcases lp with ⟨l', t', e1, e2⟩ | ⟨e1, ρ, e2⟩
  · rw [e1, e2]; simp
  · rw [e1, e2]; simp
def crsBody : DS := sApp 3 (eCall 2 M_next_of (aCons (eVar 0) (aCons (e2 dIx (eVarB 3) (e1 dNeg (eC (.int 1)))) (aNil))))
def crsTest : En → Rs Bool := tAnd (t2 dLe (eB dLen (aCons (eVarB 3) (aNil))) (eVar 2)) (tNot (tTru (eCall 2 M_has_ended (aCons (eVar 0) (aCons (e2 dIx (eVarB 3) (e1 dNeg (eC (.int 1)))) (aNil))))))
theorem atI_snoc {α : Type} (l : List α) (x : α) : atI (l ++ [x]) (-1) = some x := atI_last l x
theorem course_loop {r : Ru} (ok : r.Ok) {row : PyData} : ∀ (k : Nat) (pre : List (List Nat)) (l : List Nat) (m n : Nat), Lt r.ws.length l → l.length + 4 * n ≤ 1000000 → pre.length + n = m → m ≤ 1000000 → n < k →
    whileN crsTest crsBody k [some (.fz (rD r)), some (.fz row), some (.fz (.int m)), some (.own ((pre ++ [l]).map sD))] = .nx [some (.fz (rD r)), some (.fz row), some (.fz (.int m)), some (.own ((pre ++ courseM r l n).map sD))]
  | 0, _, _, _, _, _, _, _, _, h => absurd h (Nat.not_lt_zero _)
  | k + 1, pre, l, m, n, h, hl, hp, hm, hk => by
    have e1 : (pre ++ [l]).map sD = pre.map sD ++ [sD l] := by simp
    cases n with
    | zero =>
      have hm2 : ¬ pre.length + 1 ≤ m := by omega
      have hm3 : ¬ ((pre.length : Int) + 1 ≤ m) := by omega
      simp [whileN, crsTest, e1, hm3, courseM]
    | succ n =>
      have hm3 : ((pre.length : Int) + 1 ≤ m) := by omega
      cases q : ended r l with
      | true => simp [whileN, crsTest, e1, hm3, atI_snoc, M_has_ended_eq ok h, q, courseM]
      | false =>
        have hn := M_next_of_eq ok h q (by omega)
        have ln := next_len ok l
        have hz : pre.length + 1 < sizeLine := by rw [sizeLine_eq]; omega
        have ih := course_loop ok (row := row) k (pre ++ [l]) (next r l) m n (h.next ok) (by omega) (by simp; omega) hm (by omega)
        simp [whileN, crsTest, crsBody, e1, hm3, atI_snoc, M_has_ended_eq ok h, q, hn, hz, courseM]
        simpa [crsTest, crsBody] using ih
theorem M_course_eq {r : Ru} (ok : r.Ok) {l : List Nat} (h : rowOk r l) {n : Nat} (hn : n ≤ 200) : M_course [rD r, sD l, .int n] = .ok (.list ((courseM r l n).map sD)) := by
  have hw : M_is_within [.int n, .int 0, .int 200] = .ok (.bool true) := by rw [M_is_within_int]; simp; omega
  have h2 := h.2
  have lp := course_loop ok (row := sD l) 1000 [] l n n h.1 (by omega) (by simp) (by omega) (by omega)
  have hz : 1 ≤ sizeLine := size1 (by omega)
  have e : M_course [rD r, sD l, .int n] = outD (Fl.seq (whileN crsTest crsBody 1000 [some (.fz (rD r)), some (.fz (sD l)), some (.fz (.int n)), some (.own (([] ++ [l]).map sD))]) (sFz 3 (sRet (eVar 3)))) := by
    simp [M_course, f_course, startE, M_look_row_ok ok h, hw, hz, crsTest, crsBody]
  rw [e, lp]
  simp
end DL
namespace DL
open PySem PySem.Spec L2
/-! ## the law's own draws -/
abbrev nsD (ns : List Int) : PyData := .list (ns.map PyData.int)
def cell (ns : List Int) (k : Nat) : Int := (ns[k]?).getD 0
theorem M_cell (ns : List Int) (k : Nat) : M__law_cell [nsD ns, .int k] = .ok (.int (cell ns k)) := by
  by_cases h : k < ns.length
  · have h2 : (k : Int) < ns.length := by omega
    have e : atI (ns.map PyData.int) (k : Int) = some (.int (cell ns k)) := atI_nat (by simp [h, cell])
    simp [M__law_cell, f__law_cell, startE, h, e]
  · have h2 : ¬ (k : Int) < ns.length := by omega
    simp [M__law_cell, f__law_cell, startE, h, cell, List.getElem?_eq_none (Nat.le_of_not_lt h)]
def seedI (a b : Int) : Int := ((a * 1103515245 + 7919 * b + 12345) % 2147483647) ^ 5 % 2147483647
theorem seedI_nn (a b : Int) : 0 ≤ seedI a b := Int.emod_nonneg _ (by decide)
theorem seedI_lt (a b : Int) : seedI a b < 2147483647 := Int.emod_lt_of_pos _ (by decide)
theorem M_seed (a b : Int) : M__law_seed [.int a, .int b] = .ok (.int (seedI a b)) := by
  have h1 := Int.emod_nonneg (a * 1103515245 + 7919 * b + 12345) (b := 2147483647) (by decide)
  have h2 := Int.emod_lt_of_pos (a * 1103515245 + 7919 * b + 12345) (b := 2147483647) (by decide)
  have h3 : ((a * 1103515245 + 7919 * b + 12345) % 2147483647).natAbs < 18446744073709551616 := by omega
  simp [M__law_seed, f__law_seed, startE, h3, seedI]
theorem M_pick {s m : Int} (hm : 0 < m) : M__law_pick [.int s, .int m] = .ok (.int (s / 97 % m)) := by
  simp [M__law_pick, f__law_pick, startE, hm]
theorem join_S : ∀ (ls : List (List Nat)), Str.join (Str.ofString "") (ls.map S) = S ls.flatten
  | [] => by
    apply str_ext
    rfl
  | [l] => by simp [Str.join]
  | l :: m :: r => by
    have ih := join_S (m :: r)
    have e0 : (Str.ofString "") = S [] := by decide +kernel
    show S l ++ (Str.ofString "") ++ Str.join (Str.ofString "") ((m :: r).map S) = _
    rw [ih, e0]
    simp
theorem v_join (ls : List (List Nat)) (h : (ls.map List.length).sum ≤ sizeLine) : dJoin (.str (Str.ofString "")) [.list (ls.map sD)] = some (sD ls.flatten) := by
  have e : ls.map sD = (ls.map S).map PyData.str := by simp
  have e0 : (Str.ofString "").length = 0 := by decide +kernel
  have e1 : ((ls.map S).map (·.length)) = ls.map List.length := by simp
  show ((strsOf (ls.map sD)).bind fun ys => if (ys.map (·.length)).sum + ys.length * (Str.ofString "").length ≤ sizeLine then some (PyData.str (Str.join (Str.ofString "") ys)) else none) = _
  rw [e, strsOf_map, Option.bind_some, e0, e1, Nat.mul_zero, Nat.add_zero, if_pos h, join_S]
theorem v_joinL (l : List Nat) (h : l.length ≤ sizeLine) : dJoin (.str (Str.ofString "")) [.list (l.map fun c => sD [c])] = some (sD l) := by
  have := v_join (l.map fun c => [c]) (by
    have e : ((l.map fun c => [c]).map List.length).sum = l.length := by
      induction l with
      | nil => rfl
      | cons a r ih =>
        have := ih (by simp at h; omega)
        simp at this ⊢
        omega
    rw [e]
    exact h)
  rw [List.map_map, ← List.flatMap_def] at this
  have e2 : (l.flatMap fun c => [c]) = l := by simp
  rw [e2] at this
  exact this
theorem ix_abc {p : Int} (h0 : 0 ≤ p) (h3 : p < 3) : dIx (.str (Str.ofString "abc")) (.int p) = some (sD [97 + p.toNat]) := by
  rw [S_abc]
  have : p = 0 ∨ p = 1 ∨ p = 2 := by omega
  rcases this with rfl | rfl | rfl <;> rfl
theorem rangeD_eq (lo : Int) (n : Nat) : rangeD lo n = (List.range n).map fun (i : Nat) => PyData.int (lo + (i : Nat)) := rfl
def lettersL (s m : Int) (n : Nat) : List Nat := (List.range n).map fun (k : Nat) => 97 + (seedI s (k : Int) / 97 % m).toNat
theorem lettersL_len (s m : Int) (n : Nat) : (lettersL s m n).length = n := by simp [lettersL]
theorem lettersL_lt {s m : Int} {n : Nat} (h1 : 1 ≤ m) : Lt m.toNat (lettersL s m n) := by
  intro c hc
  obtain ⟨k, _, rfl⟩ := List.mem_map.mp hc
  have := Int.emod_nonneg (seedI s k / 97) (b := m) (by omega)
  have := Int.emod_lt_of_pos (seedI s k / 97) (b := m) (by omega)
  omega
theorem M_letters {s m : Int} (n : Nat) (h1 : 1 ≤ m) (h3 : m ≤ 3) (hn : n ≤ 1000) : M__law_letters [.int s, .int m, .int n] = .ok (sD (lettersL s m n)) := by
  have hr : inR (n : Int) = true := inR_of (by omega) (by omega)
  have hs : n ≤ sizeLine := size1 (by omega)
  have lc : lcL (gN 3) tTrue (e2 dIx (eC (.str (Str.ofString "abc"))) (eCall 2 M__law_pick (aCons (eCall 2 M__law_seed (aCons (eVar 0) (aCons (eVar 3) (aNil)))) (aCons (eVar 1) (aNil))))) [some (.fz (.int s)), some (.fz (.int m)), some (.fz (.int n)), none] (rangeD 0 n) = .ok ((List.range n).map fun (k : Nat) => sD [97 + (seedI s (k : Int) / 97 % m).toNat]) := by
    rw [rangeD_eq]
    refine lcL_all _ _ _ fun k hk => ?_
    have a1 := Int.emod_nonneg (seedI s k / 97) (b := m) (by omega)
    have a2 := Int.emod_lt_of_pos (seedI s k / 97) (b := m) (by omega)
    simp only [Int.zero_add]
    simp [M_seed, M_pick (show 0 < m by omega), ix_abc a1 (show _ < (3 : Int) by omega)]
  have ej : (List.range n).map (fun (k : Nat) => sD [97 + (seedI s (k : Int) / 97 % m).toNat]) = (lettersL s m n).map fun c => sD [c] := by simp [lettersL]
  have hl : (lettersL s m n).length ≤ sizeLine := by rw [lettersL_len]; exact hs
  rw [ej] at lc
  simp [M__law_letters, f__law_letters, startE, hr, rangeD_len, hs, lc, v_joinL _ hl]
theorem at3 {p : Int} (a b c : PyData) (h0 : 0 ≤ p) (h3 : p < 3) : atI [a, b, c] p = some (if p = 0 then a else if p = 1 then b else c) := by
  have : p = 0 ∨ p = 1 ∨ p = 2 := by omega
  rcases this with rfl | rfl | rfl <;> rfl
theorem at4 {p : Int} (a b c d : PyData) (h0 : 0 ≤ p) (h3 : p < 4) : atI [a, b, c, d] p = some (if p = 0 then a else if p = 1 then b else if p = 2 then c else d) := by
  have : p = 0 ∨ p = 1 ∨ p = 2 ∨ p = 3 := by omega
  rcases this with rfl | rfl | rfl | rfl <;> rfl
theorem md_nn (a : Int) {b : Int} (h : 0 < b) : 0 ≤ a % b := Int.emod_nonneg a (by omega)
theorem md_lt (a : Int) {b : Int} (h : 0 < b) : a % b < b := Int.emod_lt_of_pos a h
/-- a list of words being drawn -/
def rulesBody : DS := sSeq (sAsg 6 (eCall 2 M__law_seed (aCons (e2 dAdd (eCall 2 M__law_cell (aCons (eVar 0) (aCons (e2 dAdd (eVar 1) (eC (.int 1))) (aNil)))) (e2 dMul (eC (.int 41)) (eVar 5))) (aCons (eVar 5) (aNil))))) (sSeq (sAsg 7 (eCall 3 M__law_letters (aCons (eCall 2 M__law_seed (aCons (eVar 6) (aCons (eC (.int 2)) (aNil)))) (aCons (eVar 3) (aCons (e2 dMod (e2 dDiv (eVar 6) (eC (.int 7))) (eC (.int 5))) (aNil)))))) (sApp 4 (eIf (t2 dEq (e2 dMod (e2 dDiv (eVar 6) (eC (.int 11))) (eC (.int 9))) (eC (.int 0))) (eC .none) (eVar 7))))
theorem rules_loop (ns : List Int) (at_ : Nat) (s : PyData) {m : Int} (h1 : 1 ≤ m) (h3 : m ≤ 3) : ∀ (ks : List Int) (ws : List (Option (List Nat))) (a b c : Option LV), ws.length + ks.length ≤ 1000 →
    ∃ ws' a' b' c', forL (gN 5) rulesBody (ks.map PyData.int) [some (.fz (nsD ns)), some (.fz (.int at_)), some (.fz s), some (.fz (.int m)), some (.own (ws.map wD)), a, b, c] =
      .nx [some (.fz (nsD ns)), some (.fz (.int at_)), some (.fz s), some (.fz (.int m)), some (.own ((ws ++ ws').map wD)), a', b', c'] ∧ ws'.length = ks.length ∧ ∀ x, some x ∈ ws' → x.length ≤ 4 ∧ Lt m.toNat x
  | [], ws, a, b, c, _ => ⟨[], a, b, c, by simp [forL], rfl, by simp⟩
  | k :: ks, ws, a, b, c, hl => by
    simp only [List.length_cons] at hl
    have hc : M__law_cell [nsD ns, .int ((at_ : Int) + 1)] = .ok (.int (cell ns (at_ + 1))) := M_cell ns (at_ + 1)
    have s1 := M_seed (cell ns (at_ + 1) + 41 * k) k
    generalize seedI (cell ns (at_ + 1) + 41 * k) k = u at s1
    have s2 := M_seed u 2
    generalize seedI u 2 = u2 at s2
    have n5 := md_nn (u / 7) (b := 5) (by decide)
    have l5 := md_lt (u / 7) (b := 5) (by decide)
    have lt := M_letters (s := u2) (m := m) (u / 7 % 5).toNat h1 h3 (by omega)
    rw [Int.toNat_of_nonneg n5] at lt
    have ll := lettersL_len u2 m (u / 7 % 5).toNat
    have lo := lettersL_lt (s := u2) (n := (u / 7 % 5).toNat) h1
    generalize lettersL u2 m (u / 7 % 5).toNat = w at lt ll lo
    have hz : ws.length < sizeLine := by rw [sizeLine_eq]; omega
    obtain ⟨w0, hw0, ok0⟩ : ∃ w0 : Option (List Nat), (forL (gN 5) rulesBody (PyData.int k :: ks.map PyData.int) [some (.fz (nsD ns)), some (.fz (.int at_)), some (.fz s), some (.fz (.int m)), some (.own (ws.map wD)), a, b, c] =
        forL (gN 5) rulesBody (ks.map PyData.int) [some (.fz (nsD ns)), some (.fz (.int at_)), some (.fz s), some (.fz (.int m)), some (.own ((ws ++ [w0]).map wD)), some (.fz (.int k)), some (.fz (.int u)), some (.fz (sD w))]) ∧
        ∀ x, w0 = some x → x.length ≤ 4 ∧ Lt m.toNat x := by
      by_cases q : u / 11 % 9 = 0
      · refine ⟨none, ?_, by simp⟩
        simp [forL, rulesBody, hc, s1, s2, lt, q, hz, wD]
      · refine ⟨some w, ?_, fun x hx => ?_⟩
        · simp [forL, rulesBody, hc, s1, s2, lt, q, hz, wD]
        · cases hx
          exact ⟨by omega, lo⟩
    obtain ⟨ws', a', b', c', h1', h2', h3'⟩ := rules_loop ns at_ s h1 h3 ks (ws ++ [w0]) (some (.fz (.int k))) (some (.fz (.int u))) (some (.fz (sD w))) (by simp; omega)
    refine ⟨w0 :: ws', a', b', c', ?_, by simp [h2'], fun x hx => ?_⟩
    · rw [List.map_cons, hw0, h1']
      simp
    · rcases List.mem_cons.mp hx with e | hx
      · exact ok0 x e.symm
      · exact h3' x hx
theorem M_rules (ns : List Int) (at_ : Nat) : ∃ r : Ru, r.Ok ∧ M__law_rules [nsD ns, .int at_] = .ok (rD r) := by
  have hc := M_cell ns at_
  have s1 := M_seed (cell ns at_) 0
  generalize seedI (cell ns at_) 0 = u at s1
  have n7 := md_nn (u / 7) (b := 3) (by decide)
  have l7 := md_lt (u / 7) (b := 3) (by decide)
  have n5 := md_nn (u / 5) (b := 3) (by decide)
  have l5 := md_lt (u / 5) (b := 3) (by decide)
  have n11 := md_nn (u / 11) (b := 3) (by decide)
  have l11 := md_lt (u / 11) (b := 3) (by decide)
  obtain ⟨m, hm, m1, m3⟩ : ∃ m : Int, atI [PyData.int (1 + u / 5 % 3), PyData.int 2, PyData.int 2] (u / 7 % 3) = some (.int m) ∧ 1 ≤ m ∧ m ≤ 3 := by
    rw [at3 _ _ _ n7 l7]
    by_cases q : u / 7 % 3 = 0
    · exact ⟨_, by rw [if_pos q], by omega, by omega⟩
    · refine ⟨2, ?_, by omega, by omega⟩
      rw [if_neg q]; split <;> rfl
  have hz2 : 2 ≤ sizeLine := size1 (by omega)
  have hz3 : 3 ≤ sizeLine := size1 (by omega)
  have hr : inR m = true := inR_of (by omega) (by omega)
  have er : rangeD 0 m.toNat = ((List.range m.toNat).map fun (i : Nat) => (0 : Int) + (i : Nat)).map PyData.int := by rw [rangeD_eq, List.map_map]; rfl
  obtain ⟨ws, a', b', c', lp, len, okw⟩ := rules_loop ns at_ (.int u) m1 m3 ((List.range m.toNat).map fun (i : Nat) => (0 : Int) + (i : Nat)) [] none none none (by simp; omega)
  rw [← er] at lp
  simp only [List.length_map, List.length_range] at len
  simp only [List.nil_append, List.map_nil] at lp
  refine ⟨⟨(1 + u / 11 % 3).toNat, ws⟩, ⟨by show 1 ≤ (1 + u / 11 % 3).toNat; omega, by show (1 + u / 11 % 3).toNat ≤ 3; omega, by show 1 ≤ ws.length; omega, by show ws.length ≤ 3; omega, fun x hx => ?_⟩, ?_⟩
  · show x.length ≤ 4 ∧ Lt ws.length x
    rw [len]
    exact okw x hx
  · have e : M__law_rules [nsD ns, .int at_] = outD (Fl.seq (forL (gN 5) rulesBody (rangeD 0 m.toNat) [some (.fz (nsD ns)), some (.fz (.int at_)), some (.fz (.int u)), some (.fz (.int m)), some (.own []), none, none, none]) (sRet (eTup (aCons (e2 dAdd (eC (.int 1)) (e2 dMod (e2 dDiv (eVar 2) (eC (.int 11))) (eC (.int 3)))) (aCons (eB dTuple (aCons (eVarB 4) (aNil))) (aNil)))))) := by
      simp [M__law_rules, f__law_rules, startE, hc, s1, hm, hz3, hr, rulesBody]
    rw [e, lp]
    simp [hz2, rD, Int.toNat_of_nonneg (show 0 ≤ 1 + u / 11 % 3 by omega)]
end DL
namespace DL
open PySem PySem.Spec L2
def rp (k : Nat) (l : List Nat) : List Nat := (List.replicate k l).flatten
theorem strRep_S (l : List Nat) (k : Int) : strRep (S l) k = S (rp k.toNat l) := by
  apply str_ext
  simp [strRep, rp]
theorem rp_len (k : Nat) (l : List Nat) : (rp k l).length = l.length * k := rep_len
theorem Lt.rep {n : Nat} {l : List Nat} (h : Lt n l) (k : Nat) : Lt n (rp k l) := by
  intro c hc
  exact h c (rep_mem c hc)
theorem M_row {r : Ru} (ok : r.Ok) (ns : List Int) (at_ : Nat) : ∃ l, rowOk r l ∧ M__law_row [nsD ns, .int at_, rD r] = .ok (sD l) := by
  have c1 := ok.c1
  have c3 := ok.c3
  have n1 := ok.n1
  have n3 := ok.n3
  have hc := M_cell ns at_
  have s1 := M_seed (cell ns at_) 1
  generalize seedI (cell ns at_) 1 = u at s1
  have s2 := M_seed u 1
  generalize seedI u 1 = u1 at s2
  have s3 := M_seed u 2
  generalize seedI u 2 = u2 at s3
  have z3 : 3 ≤ sizeLine := size1 (by omega)
  have z4 : 4 ≤ sizeLine := size1 (by omega)
  -- the row's length
  obtain ⟨n, hn, hn24⟩ : ∃ n : Nat, atI [PyData.int (u / 5 % 25), PyData.int (u / 5 % 8), PyData.int (r.cut * (1 + u / 5 % 3))] (u / 7 % 3) = some (.int n) ∧ n ≤ 24 := by
    rw [at3 _ _ _ (md_nn _ (by decide)) (md_lt _ (by decide))]
    have a1 := md_nn (u / 5) (b := 25) (by decide)
    have a2 := md_lt (u / 5) (b := 25) (by decide)
    have b1 := md_nn (u / 5) (b := 8) (by decide)
    have b2 := md_lt (u / 5) (b := 8) (by decide)
    have d1 := md_nn (u / 5) (b := 3) (by decide)
    have d2 := md_lt (u / 5) (b := 3) (by decide)
    by_cases q : u / 7 % 3 = 0
    · exact ⟨(u / 5 % 25).toNat, by rw [if_pos q, Int.toNat_of_nonneg a1], by omega⟩
    · by_cases q2 : u / 7 % 3 = 1
      · exact ⟨(u / 5 % 8).toNat, by rw [if_neg q, if_pos q2, Int.toNat_of_nonneg b1], by omega⟩
      · obtain ⟨t, ht⟩ : ∃ t : Nat, 1 + u / 5 % 3 = t := ⟨(1 + u / 5 % 3).toNat, by omega⟩
        refine ⟨r.cut * t, by rw [if_neg q, if_neg q2, ht, Int.natCast_mul], ?_⟩
        have : t ≤ 3 := by omega
        calc r.cut * t ≤ 3 * 3 := Nat.mul_le_mul c3 this
          _ ≤ 24 := by decide
  have hm1 : (1 : Int) ≤ (r.ws.length : Nat) := by omega
  have hm3 : ((r.ws.length : Nat) : Int) ≤ 3 := by omega
  have hcb : -18446744073709551616 < (r.cut : Int) ∧ (r.cut : Int) < 18446744073709551616 := by omega
  have lt := M_letters (s := u1) (m := (r.ws.length : Nat)) n hm1 hm3 (by omega)
  have ll := lettersL_len u1 (r.ws.length : Nat) n
  have lo := lettersL_lt (s := u1) (n := n) hm1
  generalize lettersL u1 (r.ws.length : Nat) n = w at lt ll lo
  simp only [Int.toNat_natCast] at lo
  by_cases q : u / 11 % 3 = 0
  · -- a part, so many of it
    obtain ⟨p, hp, p1, p24⟩ : ∃ p : Nat, atI [PyData.int r.cut, PyData.int 1, PyData.int (2 * r.cut), PyData.int 3] (u / 13 % 4) = some (.int p) ∧ 1 ≤ p ∧ p ≤ 6 := by
      rw [at4 _ _ _ _ (md_nn _ (by decide)) (md_lt _ (by decide))]
      by_cases q0 : u / 13 % 4 = 0
      · exact ⟨r.cut, by rw [if_pos q0], c1, by omega⟩
      · by_cases q1 : u / 13 % 4 = 1
        · exact ⟨1, by rw [if_neg q0, if_pos q1]; rfl, by omega, by omega⟩
        · by_cases q2 : u / 13 % 4 = 2
          · exact ⟨2 * r.cut, by rw [if_neg q0, if_neg q1, if_pos q2]; simp, by omega, by omega⟩
          · exact ⟨3, by rw [if_neg q0, if_neg q1, if_neg q2]; rfl, by omega, by omega⟩
    have lt2 := M_letters (s := u2) (m := (r.ws.length : Nat)) p hm1 hm3 (by omega)
    have ll2 := lettersL_len u2 (r.ws.length : Nat) p
    have lo2 := lettersL_lt (s := u2) (n := p) hm1
    generalize lettersL u2 (r.ws.length : Nat) p = w2 at lt2 ll2 lo2
    simp only [Int.toNat_natCast] at lo2
    have hd : 0 < (24 : Int) / (p : Nat) := by
      have : p = 1 ∨ p = 2 ∨ p = 3 ∨ p = 4 ∨ p = 5 ∨ p = 6 := by omega
      rcases this with rfl | rfl | rfl | rfl | rfl | rfl <;> decide
    have e1 := md_nn (u / 17) hd
    have e2 := md_lt (u / 17) hd
    obtain ⟨t, ht⟩ : ∃ t : Nat, 1 + u / 17 % (24 / ((p : Nat) : Int)) = t := ⟨(1 + u / 17 % (24 / (p : Nat))).toNat, by omega⟩
    have ht24 : p * t ≤ 24 := by
      have h5 : (t : Int) ≤ 24 / (p : Nat) := by omega
      have h6 : (p : Int) * (24 / (p : Nat)) ≤ 24 := Int.mul_ediv_self_le (by omega)
      have h7 : (p : Int) * t ≤ p * (24 / (p : Nat)) := Int.mul_le_mul_of_nonneg_left h5 (by omega)
      have h8 : ((p * t : Nat) : Int) ≤ 24 := by rw [Int.natCast_mul]; omega
      omega
    refine ⟨(rp 24 w2).take (p * t), ⟨(lo2.rep 24).take _, by rw [List.length_take]; omega⟩, ?_⟩
    have hz : p * 24 ≤ sizeLine := size1 (by omega)
    have hp24 : ((p : Nat) : Int) < 1073741824 := by omega
    have hp0 : 0 < p := by omega
    have hpb : -18446744073709551616 < (p : Int) ∧ (p : Int) < 18446744073709551616 := by omega
    have em : (p : Int) * (t : Int) = ((p * t : Nat) : Int) := by rw [Int.natCast_mul]
    have ct := cutS_to (rp 24 w2) (p * t)
    rw [← em] at ct
    simp [M__law_row, f__law_row, startE, hc, s1, s2, s3, z3, z4, hcb, hn, lt, q, hp, lt2, ll2, hz, hp24, hp0, p1, hd, ht, hpb, strRep_S, ct]
  · refine ⟨w, ⟨lo, by omega⟩, ?_⟩
    simp [M__law_row, f__law_row, startE, hc, s1, s2, z3, hcb, hn, lt, q]
end DL
namespace DL
open PySem PySem.Spec L2
theorem lw_eq : M__law_word = M_word_of := rfl
theorem le_eq : M__law_ended = M_has_ended := rfl
def lcBody : DS := sSeq (sIf (tTru (eCall 2 M__law_ended (aCons (eVar 0) (aCons (e2 dIx (eVarB 3) (e1 dNeg (eC (.int 1)))) (aNil))))) (sFz 3 (sRet (eVar 3))) (sNil)) (sApp 3 (e2 dAdd (eCut (e2 dIx (eVarB 3) (e1 dNeg (eC (.int 1)))) (oSome (e2 dIx (eVar 0) (eC (.int 0)))) (oNone)) (eCall 2 M__law_word (aCons (eVar 0) (aCons (e2 dIx (e2 dIx (eVarB 3) (e1 dNeg (eC (.int 1)))) (eC (.int 0))) (aNil))))))
theorem not_ended {r : Ru} (ok : r.Ok) {l : List Nat} (h : Lt r.ws.length l) (q : ended r l = false) : ∃ c l' x, l = c :: l' ∧ wordOf r c = some x ∧ 97 ≤ c ∧ c < 97 + r.ws.length ∧ r.cut ≤ l.length := by
  have h0 := ok.c1
  simp only [ended, Bool.or_eq_false_iff, decide_eq_false_iff_not] at q
  cases l with
  | nil => simp at q; omega
  | cons c l =>
    obtain ⟨h1, h2⟩ := h c (by simp)
    cases qw : wordOf r c with
    | none => simp [qw] at q
    | some x => exact ⟨c, l, x, rfl, qw, h1, h2, by simp at q ⊢; omega⟩
theorem lc_loop {r : Ru} (ok : r.Ok) (row m : PyData) : ∀ (ds : List PyData) (pre : List (List Nat)) (l : List Nat) (t : Option LV), Lt r.ws.length l → l.length + 4 * ds.length ≤ 1000000 → pre.length + ds.length ≤ 1000000 →
    Fl.seq (forL (gN 4) lcBody ds [some (.fz (rD r)), some (.fz row), some (.fz m), some (.own ((pre ++ [l]).map sD)), t]) (sFz 3 (sRet (eVar 3))) = .rt (.list ((pre ++ courseM r l ds.length).map sD))
  | [], pre, l, t, _, _, _ => by simp [forL, courseM]
  | d :: ds, pre, l, t, h, hl, hp => by
    simp only [List.length_cons] at hl hp
    have e1 : (pre ++ [l]).map sD = pre.map sD ++ [sD l] := by simp
    cases q : ended r l with
    | true => simp [forL, lcBody, e1, atI_snoc, le_eq, M_has_ended_eq ok h, q, courseM]
    | false =>
      obtain ⟨c, l', x, rfl, qw, h1, h2, hcut⟩ := not_ended ok h q
      have hx := wordOf_ok ok qw
      have hw := M_word_of_eq ok h1 h2
      rw [qw] at hw
      have hz : pre.length + 1 < sizeLine := by rw [sizeLine_eq]; omega
      have hb : ((c :: l').drop r.cut).length + x.length ≤ sizeLine := size1 (by
        have := hx.1
        rw [List.length_drop]
        omega)
      simp only [List.length_drop, List.length_cons] at hb
      have ln := next_len ok (c :: l')
      have en : next r (c :: l') = (c :: l').drop r.cut ++ x := by simp [next, qw]
      have ih := lc_loop ok row m ds (pre ++ [c :: l']) (next r (c :: l')) (some (.fz d)) (h.next ok) (by omega) (by simp; omega)
      rw [en] at ih
      have e2 : forL (gN 4) lcBody (d :: ds) [some (.fz (rD r)), some (.fz row), some (.fz m), some (.own ((pre ++ [c :: l']).map sD)), t] =
          forL (gN 4) lcBody ds [some (.fz (rD r)), some (.fz row), some (.fz m), some (.own ((pre ++ [c :: l'] ++ [(c :: l').drop r.cut ++ x]).map sD)), some (.fz d)] := by
        simp [forL, lcBody, e1, atI_snoc, le_eq, lw_eq, M_has_ended_eq ok h, q, hw, wD, cutS_from, hb, hz]
      rw [e2, ih]
      simp [courseM, q, en]
theorem M_law_course {r : Ru} (ok : r.Ok) {l : List Nat} (h : Lt r.ws.length l) {n : Nat} (hn : l.length + 4 * n ≤ 100000) : M__law_course [rD r, sD l, .int n] = .ok (.list ((courseM r l n).map sD)) := by
  have hr : inR (n : Int) = true := inR_of (by omega) (by omega)
  have hz : 1 ≤ sizeLine := size1 (by omega)
  have lp := lc_loop ok (sD l) (.int n) (rangeD 0 n) [] l none h (by rw [rangeD_len]; omega) (by rw [rangeD_len]; simp; omega)
  rw [rangeD_len] at lp
  have e : M__law_course [rD r, sD l, .int n] = outD (Fl.seq (forL (gN 4) lcBody (rangeD 0 n) [some (.fz (rD r)), some (.fz (sD l)), some (.fz (.int n)), some (.own (([] ++ [l]).map sD)), none]) (sFz 3 (sRet (eVar 3)))) := by
    simp [M__law_course, f__law_course, startE, hr, hz, lcBody]
  rw [e, lp]
  simp
theorem courseM_len (r : Ru) : ∀ (n : Nat) (l : List Nat), 1 ≤ (courseM r l n).length ∧ (courseM r l n).length ≤ n + 1
  | 0, l => by simp [courseM]
  | n + 1, l => by
    unfold courseM
    split
    · simp
    · have := courseM_len r n (next r l)
      simp; omega
/-- the last row of a course, if it is long enough -/
theorem courseM_last (r : Ru) : ∀ (n : Nat) (l : List Nat), iter r l n = if n < (courseM r l n).length then (courseM r l n).getLast? else none
  | 0, l => by simp [iter, courseM]
  | n + 1, l => by
    unfold iter courseM
    split
    · simp
    · have := courseM_last r n (next r l)
      rw [this]
      have hl := (courseM_len r n (next r l)).1
      simp only [List.length_cons, Nat.add_lt_add_iff_right]
      split
      · rw [List.getLast?_cons]
        cases q : courseM r (next r l) n with
        | nil => rw [q] at hl; simp at hl
        | cons a b => simp [List.getLast?_cons]
      · rfl
end DL
namespace DL
open PySem PySem.Spec L2
def f_told_by : DS := sSeq (sOwn 2 (nLst (aCons (eVar 1) (aNil)))) (sSeq (sWhile 1000 (tAnd (t2 dLe (eB dLen (aCons (eVarB 2) (aNil))) (eC (.int 60))) (tNot (tTru (eCall 2 M_has_ended (aCons (eVar 0) (aCons (e2 dIx (eVarB 2) (e1 dNeg (eC (.int 1)))) (aNil))))))) (sApp 2 (eCall 2 M_next_of (aCons (eVar 0) (aCons (e2 dIx (eVarB 2) (e1 dNeg (eC (.int 1)))) (aNil)))))) (sFz 2 (sRet (eVar 2))))
def M_told_by : List D → Rs D := fun ds => outD (f_told_by (startE 3 ds))

def f_meet : DS := sSeq (sExpr (eCall 2 M_look_row (aCons (eVar 0) (aCons (eVar 1) (aNil))))) (sSeq (sExpr (eCall 2 M_look_row (aCons (eVar 0) (aCons (eVar 2) (aNil))))) (sSeq (sAsg 3 (eCall 2 M_told_by (aCons (eVar 0) (aCons (eVar 1) (aNil))))) (sSeq (sAsg 4 (eCall 2 M_told_by (aCons (eVar 0) (aCons (eVar 2) (aNil))))) (sSeq (sFor (iEn (aCons (eVar 3) (aNil))) (gN2 5 6) (sIf (t2 dIn (eVar 6) (eVar 4)) (sRet (eTup (aCons (eVar 5) (aCons (eM "list" dLIdx (eVar 4) (aCons (eVar 6) (aNil))) (aNil))))) (sNil))) (sRet (eC .none))))))
def M_meet : List D → Rs D := fun ds => outD (f_meet (startE 7 ds))

def f__law_mix : DS := sRet (e2 dMod (e2 dMod (e2 dMul (eVar 0) (eC (.int 48271))) (eVar 1)) (eVar 2))
def M__law_mix : List D → Rs D := fun ds => outD (f__law_mix (startE 3 ds))

def f__law_ahead : DS := sSeq (sAsg 2 (eCut (eC (.str "abc")) (oNone) (oSome (eB dLen (aCons (e2 dIx (eVar 0) (eC (.int 1))) (aNil)))))) (sSeq (sAsg 3 (eFz (nLst (aNil)))) (sSeq (sFor (iSeq (eVar 2)) (gN 4) (sSeq (sAsg 5 (eCall 2 M__law_word (aCons (eVar 0) (aCons (eVar 4) (aNil))))) (sIf (tAnd (t2 dIsNot (eVar 5) (eC .none)) (t2 dEq (eCut (eVar 1) (oSome (eB dMax2 (aCons (eC (.int 0)) (aCons (e2 dSub (eB dLen (aCons (eVar 1) (aNil))) (eB dLen (aCons (eVar 5) (aNil)))) (aNil))))) (oNone)) (eVar 5))) (sSeq (sAsg 6 (eFz (nLst (aCons (eVar 4) (aNil))))) (sSeq (sFor (iR1 (aCons (e2 dSub (e2 dIx (eVar 0) (eC (.int 0))) (eC (.int 1))) (aNil))) (gN 7) (sSeq (sAsg 8 (eFz (nLst (aNil)))) (sSeq (sFor (iSeq (eVar 6)) (gN 9) (sAsg 8 (e2 dAdd (eVar 8) (eFz (nLc [10] (iSeq (eVar 2)) (gN 10) (tTrue) (e2 dAdd (eVar 9) (eVar 10))))))) (sAsg 6 (eVar 8))))) (sAsg 3 (e2 dAdd (eVar 3) (eFz (nLc [9] (iSeq (eVar 6)) (gN 9) (tTrue) (e2 dAdd (eVar 9) (eCut (eVar 1) (oNone) (oSome (e2 dSub (eB dLen (aCons (eVar 1) (aNil))) (eB dLen (aCons (eVar 5) (aNil))))))))))))) (sNil)))) (sRet (eFz (nB dSorted (aCons (eVar 3) (aNil)))))))
def M__law_ahead : List D → Rs D := fun ds => outD (f__law_ahead (startE 11 ds))

end DL
namespace DL
open PySem PySem.Spec L2
section
variable {ρ : En} {fs : En → Rs (List PyData)} {fa fb : DEx}
@[simp] theorem r_nRev (ds : List PyData) (h : fa ρ = .ok (.list ds)) : nRev fa ρ = .ok ds.reverse := by unfold nRev; rw [h]; rfl
@[simp] theorem r_iEn (es : List PyData) (h : fs ρ = .ok [.list es]) : iEn fs ρ = .ok (enumD 0 es) := by unfold iEn; rw [h]; rfl
theorem r_nLR (n : Nat) (h : fs ρ = .ok [.int n]) (hn : n ≤ 1000000) : nLR fs ρ = .ok (rangeD 0 n) := by
  unfold nLR
  rw [h]
  simp only [rsb_ok]
  rw [if_pos ⟨by omega, by omega, by rw [sizeLine_eq]; omega⟩, Int.toNat_natCast]
@[simp] theorem v_max2 (i j : Int) : dMax2 [.int i, .int j] = some (.int (if j > i then j else i)) := id rfl
@[simp] theorem v_min2 (i j : Int) : dMin2 [.int i, .int j] = some (.int (if j < i then j else i)) := id rfl
end
/-! ### texts in a list of texts -/
theorem flat_strs (ls : List (List Nat)) : (ls.map sD).all flatD = true := by
  rw [List.all_eq_true]
  intro d hd
  obtain ⟨l, _, rfl⟩ := List.mem_map.mp hd
  rfl
theorem eqv_sD (a b : List Nat) : PyData.eqv (sD a) (sD b) = decide (a = b) := by simp [PyData.eqv, Bool.beq_eq_decide_eq]
theorem v_inL (a : List Nat) (ls : List (List Nat)) : dIn (sD a) (.list (ls.map sD)) = some (.bool (decide (a ∈ ls))) := by
  have h : dIn (sD a) (.list (ls.map sD)) = if flatD (sD a) && (ls.map sD).all flatD then some (.bool ((ls.map sD).any fun y => PyData.eqv y (sD a))) else none := rfl
  rw [h, flat_strs]
  simp only [flatD, Bool.true_and, if_true]
  congr 2
  rw [Bool.eq_iff_iff]
  simp only [List.any_map, Function.comp_def, eqv_sD, List.any_eq_true, decide_eq_true_eq]
  exact ⟨fun ⟨x, h1, h2⟩ => h2 ▸ h1, fun h => ⟨a, h, rfl⟩⟩
theorem idxD_strs (a : List Nat) : ∀ (ls : List (List Nat)), idxD (sD a) (ls.map sD) = if a ∈ ls then some (ls.idxOf a) else none
  | [] => rfl
  | b :: r => by
    show (if PyData.eqv (sD b) (sD a) = true then some 0 else (idxD (sD a) (r.map sD)).map (· + 1)) = _
    rw [eqv_sD, idxD_strs a r, List.idxOf_cons]
    by_cases h : b = a
    · simp [h]
    · have h' : ¬ a = b := fun e => h e.symm
      have h3 : (b == a) = false := by simpa using h
      by_cases h2 : a ∈ r <;> simp [h, h', h2, h3]
theorem v_lidx (a : List Nat) (ls : List (List Nat)) (h : a ∈ ls) : dLIdx (.list (ls.map sD)) [sD a] = some (.int (ls.idxOf a)) := by
  have e : dLIdx (.list (ls.map sD)) [sD a] = if flatD (sD a) && (ls.map sD).all flatD then (idxD (sD a) (ls.map sD)).map fun j => .int (j : Nat) else none := rfl
  rw [e, flat_strs, idxD_strs, if_pos h]
  rfl
/-! ### told_by, meet -/
def tbBody : DS := sApp 2 (eCall 2 M_next_of (aCons (eVar 0) (aCons (e2 dIx (eVarB 2) (e1 dNeg (eC (.int 1)))) (aNil))))
def tbTest : En → Rs Bool := tAnd (t2 dLe (eB dLen (aCons (eVarB 2) (aNil))) (eC (.int 60))) (tNot (tTru (eCall 2 M_has_ended (aCons (eVar 0) (aCons (e2 dIx (eVarB 2) (e1 dNeg (eC (.int 1)))) (aNil))))))
theorem tb_loop {r : Ru} (ok : r.Ok) {row : PyData} : ∀ (k : Nat) (pre : List (List Nat)) (l : List Nat) (n : Nat), Lt r.ws.length l → l.length + 4 * n ≤ 1000000 → pre.length + n = 60 → n < k →
    whileN tbTest tbBody k [some (.fz (rD r)), some (.fz row), some (.own ((pre ++ [l]).map sD))] = .nx [some (.fz (rD r)), some (.fz row), some (.own ((pre ++ courseM r l n).map sD))]
  | 0, _, _, _, _, _, _, h => absurd h (Nat.not_lt_zero _)
  | k + 1, pre, l, n, h, hl, hp, hk => by
    have e1 : (pre ++ [l]).map sD = pre.map sD ++ [sD l] := by simp
    cases n with
    | zero =>
      have hm3 : ¬ ((pre.length : Int) + 1 ≤ 60) := by omega
      simp [whileN, tbTest, e1, hm3, courseM]
    | succ n =>
      have hm3 : ((pre.length : Int) + 1 ≤ 60) := by omega
      cases q : ended r l with
      | true => simp [whileN, tbTest, e1, hm3, atI_snoc, M_has_ended_eq ok h, q, courseM]
      | false =>
        have hn := M_next_of_eq ok h q (by omega)
        have ln := next_len ok l
        have hz : pre.length + 1 < sizeLine := by rw [sizeLine_eq]; omega
        have ih := tb_loop ok (row := row) k (pre ++ [l]) (next r l) n (h.next ok) (by omega) (by simp; omega) (by omega)
        simp [whileN, tbTest, tbBody, e1, hm3, atI_snoc, M_has_ended_eq ok h, q, hn, hz, courseM]
        simpa [tbTest, tbBody] using ih
theorem M_told_by_eq {r : Ru} (ok : r.Ok) {l : List Nat} (h : Lt r.ws.length l) (hl : l.length ≤ 10000) : M_told_by [rD r, sD l] = .ok (.list ((courseM r l 60).map sD)) := by
  have lp := tb_loop ok (row := sD l) 1000 [] l 60 h (by omega) rfl (by omega)
  have hz : 1 ≤ sizeLine := size1 (by omega)
  have e : M_told_by [rD r, sD l] = outD (Fl.seq (whileN tbTest tbBody 1000 [some (.fz (rD r)), some (.fz (sD l)), some (.own (([] ++ [l]).map sD))]) (sFz 2 (sRet (eVar 2)))) := by
    simp [M_told_by, f_told_by, startE, hz, tbTest, tbBody]
  rw [e, lp]
  simp
def pairD : Option (Nat × Nat) → PyData
  | none => .none
  | some (i, j) => .tuple [.int i, .int j]
/-- the first place of what is in both -/
def meetL (theirs : List (List Nat)) : Nat → List (List Nat) → Option (Nat × Nat)
  | _, [] => none
  | k, a :: r => if a ∈ theirs then some (k, theirs.idxOf a) else meetL theirs (k + 1) r
def mtBody : DS := sIf (t2 dIn (eVar 6) (eVar 4)) (sRet (eTup (aCons (eVar 5) (aCons (eM "list" dLIdx (eVar 4) (aCons (eVar 6) (aNil))) (aNil))))) (sNil)
theorem mt_loop (theirs : List (List Nat)) (a b c d : Option LV) : ∀ (mine : List (List Nat)) (k : Nat) (x y : Option LV),
    (meetL theirs k mine = none ∧ ∃ x' y', forL (gN2 5 6) mtBody (enumD k (mine.map sD)) [a, b, c, d, some (.fz (.list (theirs.map sD))), x, y] = .nx [a, b, c, d, some (.fz (.list (theirs.map sD))), x', y']) ∨
    (∃ p, meetL theirs k mine = some p ∧ forL (gN2 5 6) mtBody (enumD k (mine.map sD)) [a, b, c, d, some (.fz (.list (theirs.map sD))), x, y] = .rt (pairD (some p)))
  | [], k, x, y => .inl ⟨rfl, x, y, rfl⟩
  | l :: r, k, x, y => by
    have z2 : 2 ≤ sizeLine := size1 (by omega)
    by_cases h : l ∈ theirs
    · refine .inr ⟨(k, theirs.idxOf l), by simp [meetL, h], ?_⟩
      simp [enumD, forL, mtBody, v_inL, h, v_lidx, z2, pairD]
    · have ih := mt_loop theirs a b c d r (k + 1) (some (.fz (.int k))) (some (.fz (sD l)))
      have e : forL (gN2 5 6) mtBody (enumD k ((l :: r).map sD)) [a, b, c, d, some (.fz (.list (theirs.map sD))), x, y] = forL (gN2 5 6) mtBody (enumD (k + 1) (r.map sD)) [a, b, c, d, some (.fz (.list (theirs.map sD))), some (.fz (.int k)), some (.fz (sD l))] := by
        simp [enumD, forL, mtBody, v_inL, h]
      have em : meetL theirs k (l :: r) = meetL theirs (k + 1) r := by simp [meetL, h]
      rw [e, em]
      exact ih
theorem M_meet_eq {r : Ru} (ok : r.Ok) {a b : List Nat} (ha : rowOk r a) (hb : rowOk r b) : M_meet [rD r, sD a, sD b] = .ok (pairD (meetL (courseM r b 60) 0 (courseM r a 60))) := by
  have h1 := ha.2
  have h2 := hb.2
  have ta := M_told_by_eq ok ha.1 (by omega)
  have tb := M_told_by_eq ok hb.1 (by omega)
  have lp := mt_loop (courseM r b 60) (some (.fz (rD r))) (some (.fz (sD a))) (some (.fz (sD b))) (some (.fz (.list ((courseM r a 60).map sD)))) (courseM r a 60) 0 none none
  have e : M_meet [rD r, sD a, sD b] = outD (Fl.seq (forL (gN2 5 6) mtBody (enumD 0 ((courseM r a 60).map sD)) [some (.fz (rD r)), some (.fz (sD a)), some (.fz (sD b)), some (.fz (.list ((courseM r a 60).map sD))), some (.fz (.list ((courseM r b 60).map sD))), none, none]) (sRet (eC .none))) := by
    simp [M_meet, f_meet, startE, M_look_row_ok ok ha, M_look_row_ok ok hb, ta, tb, mtBody]
  rw [e]
  rcases lp with ⟨e1, x', y', e2⟩ | ⟨p, e1, e2⟩
  · rw [e1, e2]; simp [pairD]
  · rw [e1, e2]; simp
theorem M_mix {c p : Int} {m : Nat} (hp : 0 < p) (hm : 0 < m) : M__law_mix [.int c, .int p, .int m] = .ok (.int ((c * 48271 % p % m).toNat : Nat)) := by
  have h1 := md_nn (c * 48271 % p) (b := (m : Int)) (by omega)
  simp [M__law_mix, f__law_mix, startE, hp, hm]
  omega
end DL
namespace DL
open PySem PySem.Spec L2
/-! ### the law's rows ahead -/
def lets (r : Ru) : List Nat := [97, 98, 99].take r.ws.length
theorem lets_len {r : Ru} (ok : r.Ok) : (lets r).length = r.ws.length := by
  have := ok.n3
  simp [lets]; omega
theorem mem_lets {r : Ru} (ok : r.Ok) {c : Nat} : c ∈ lets r ↔ 97 ≤ c ∧ c < 97 + r.ws.length := mem_abc ok.n3
def growL (ls : List Nat) (os : List (List Nat)) : List (List Nat) := os.flatMap fun o => ls.map fun c => o ++ [c]
def heads (ls : List Nat) : Nat → List (List Nat) → List (List Nat)
  | 0, os => os
  | n + 1, os => heads ls n (growL ls os)
def aheadC (r : Ru) (l : List Nat) (c : Nat) : List (List Nat) := match wordOf r c with
  | some w => if l.drop (l.length - w.length) = w then (heads (lets r) (r.cut - 1) [[c]]).map fun o => o ++ l.take (l.length - w.length) else []
  | none => []
def aheadU (r : Ru) (l : List Nat) : List (List Nat) := (lets r).flatMap (aheadC r l)
def leN (a b : List Nat) : Bool := !decide (b < a)
def sortN (ls : List (List Nat)) : List (List Nat) := ls.mergeSort leN
theorem sortS_S (ls : List (List Nat)) : sortS (ls.map S) = (sortN ls).map S := by
  unfold sortS sortN
  rw [List.map_mergeSort]
  intro a _ b _
  simp [leS, leN]
theorem v_sorted (ls : List (List Nat)) (h : ls.length < 64) : dSorted [.list (ls.map sD)] = some ((sortN ls).map sD) := by
  have e : ls.map sD = (ls.map S).map PyData.str := by simp
  show ((strsOf (ls.map sD)).bind fun xs => if xs.length < 64 then some ((sortS xs).map PyData.str) else none) = _
  rw [e, strsOf_map, Option.bind_some, if_pos (by simpa using h), sortS_S]
  simp
def ahA : DS := sAsg 8 (e2 dAdd (eVar 8) (eFz (nLc [10] (iSeq (eVar 2)) (gN 10) (tTrue) (e2 dAdd (eVar 9) (eVar 10)))))
theorem ahA_loop (ls : List Nat) (h3 : ls.length ≤ 3) (x0 x1 x3 x4 x5 x6 x7 x10 : Option LV) : ∀ (os acc : List (List Nat)) (x9 : Option LV), (∀ o ∈ os, o.length ≤ 1000) → acc.length + 3 * os.length ≤ 1000 →
    ∃ x9', forL (gN 9) ahA (os.map sD) [x0, x1, some (.fz (sD ls)), x3, x4, x5, x6, x7, some (.fz (.list (acc.map sD))), x9, x10] =
      .nx [x0, x1, some (.fz (sD ls)), x3, x4, x5, x6, x7, some (.fz (.list ((acc ++ growL ls os).map sD))), x9', x10]
  | [], acc, x9, _, _ => ⟨x9, by simp [forL, growL]⟩
  | o :: os, acc, x9, ho, hl => by
    simp only [List.length_cons] at hl
    have h1 := ho o (by simp)
    obtain ⟨x9', ih⟩ := ahA_loop ls h3 x0 x1 x3 x4 x5 x6 x7 x10 os (acc ++ ls.map fun c => o ++ [c]) (some (.fz (sD o))) (fun o h => ho o (by simp [h])) (by simp; omega)
    have hz : o.length + 1 ≤ sizeLine := size1 (by omega)
    have hz2 : ls.length ≤ sizeLine := size1 (by omega)
    have hz3 : acc.length + ls.length ≤ sizeLine := size1 (by omega)
    have lc : lcL (gN 10) tTrue (e2 dAdd (eVar 9) (eVar 10)) [x0, x1, some (.fz (sD ls)), x3, x4, x5, x6, x7, some (.fz (.list (acc.map sD))), some (.fz (sD o)), none] (ls.map fun c => sD [c]) = .ok (ls.map fun c => sD (o ++ [c])) := by
      refine lcL_all _ _ _ fun c _ => ?_
      simp [hz]
    have e : forL (gN 9) ahA (sD o :: os.map sD) [x0, x1, some (.fz (sD ls)), x3, x4, x5, x6, x7, some (.fz (.list (acc.map sD))), x9, x10] = forL (gN 9) ahA (os.map sD) [x0, x1, some (.fz (sD ls)), x3, x4, x5, x6, x7, some (.fz (.list ((acc ++ ls.map fun c => o ++ [c]).map sD))), some (.fz (sD o)), x10] := by
      simp [forL, ahA, lc, hz2, hz3, Function.comp_def]
    refine ⟨x9', ?_⟩
    rw [List.map_cons, e, ih]
    simp [growL]
theorem growL_len (ls : List Nat) : ∀ os : List (List Nat), (growL ls os).length = ls.length * os.length
  | [] => by simp [growL]
  | o :: os => by
    have := growL_len ls os
    simp only [growL, List.flatMap_cons, List.length_append, List.length_map, List.length_cons] at this ⊢
    rw [this, Nat.mul_succ]; omega
theorem growL_mem {ls : List Nat} {os : List (List Nat)} {x : List Nat} (h : x ∈ growL ls os) : ∃ o ∈ os, ∃ c ∈ ls, x = o ++ [c] := by
  obtain ⟨o, ho, hx⟩ := List.mem_flatMap.mp h
  obtain ⟨c, hc, rfl⟩ := List.mem_map.mp hx
  exact ⟨o, ho, c, hc, rfl⟩
def ahB : DS := sSeq (sAsg 8 (eFz (nLst (aNil)))) (sSeq (sFor (iSeq (eVar 6)) (gN 9) ahA) (sAsg 6 (eVar 8)))
theorem ahB_loop (ls : List Nat) (h3 : ls.length ≤ 3) (x0 x1 x3 x4 x5 x10 : Option LV) : ∀ (ks : List PyData) (os : List (List Nat)) (m : Nat) (x7 x8 x9 : Option LV), (∀ o ∈ os, o.length ≤ m) → m + ks.length ≤ 100 → os.length * 3 ^ (ks.length + 1) ≤ 500 →
    ∃ x7' x8' x9', forL (gN 7) ahB ks [x0, x1, some (.fz (sD ls)), x3, x4, x5, some (.fz (.list (os.map sD))), x7, x8, x9, x10] =
      .nx [x0, x1, some (.fz (sD ls)), x3, x4, x5, some (.fz (.list ((heads ls ks.length os).map sD))), x7', x8', x9', x10]
  | [], os, m, x7, x8, x9, _, _, _ => ⟨x7, x8, x9, by simp [forL, heads]⟩
  | k :: ks, os, m, x7, x8, x9, ho, hm, hl => by
    simp only [List.length_cons] at hl hm
    have hp : 1 ≤ 3 ^ (ks.length + 1) := Nat.one_le_pow _ _ (by decide)
    have e3 : 3 ^ (ks.length + 1 + 1) = 3 ^ (ks.length + 1) * 3 := Nat.pow_succ ..
    have hb : 3 * os.length ≤ 500 := by
      have : os.length * 3 ≤ os.length * 3 ^ (ks.length + 1 + 1) := Nat.mul_le_mul_left _ (by omega)
      omega
    obtain ⟨y9, la⟩ := ahA_loop ls h3 x0 x1 x3 x4 x5 (some (.fz (.list (os.map sD)))) (some (.fz k)) x10 os [] x9 (fun o h => by have := ho o h; omega) (by simp; omega)
    simp only [List.nil_append, List.map_nil] at la
    obtain ⟨x7', x8', x9', ih⟩ := ahB_loop ls h3 x0 x1 x3 x4 x5 x10 ks (growL ls os) (m + 1) (some (.fz k)) (some (.fz (.list ((growL ls os).map sD)))) y9 (fun o h => by
      obtain ⟨o', h1, c, _, rfl⟩ := growL_mem h
      have := ho o' h1
      simp; omega) (by omega) (by
        rw [growL_len]
        have : ls.length * os.length * 3 ^ (ks.length + 1) ≤ 3 * os.length * 3 ^ (ks.length + 1) := Nat.mul_le_mul_right _ (Nat.mul_le_mul_right _ h3)
        have e4 : 3 * os.length * 3 ^ (ks.length + 1) = os.length * 3 ^ (ks.length + 1 + 1) := by rw [e3, Nat.mul_comm 3, Nat.mul_assoc, Nat.mul_comm 3]
        omega)
    refine ⟨x7', x8', x9', ?_⟩
    have e : forL (gN 7) ahB (k :: ks) [x0, x1, some (.fz (sD ls)), x3, x4, x5, some (.fz (.list (os.map sD))), x7, x8, x9, x10] = forL (gN 7) ahB ks [x0, x1, some (.fz (sD ls)), x3, x4, x5, some (.fz (.list ((growL ls os).map sD))), some (.fz k), some (.fz (.list ((growL ls os).map sD))), y9, x10] := by
      simp [forL, ahB, la]
    rw [e, ih]
    rfl
theorem heads_len (ls : List Nat) : ∀ (n : Nat) (os : List (List Nat)), (heads ls n os).length = ls.length ^ n * os.length
  | 0, os => by simp [heads]
  | n + 1, os => by rw [heads, heads_len ls n, growL_len, Nat.pow_succ, Nat.mul_assoc]
theorem heads_mem {ls : List Nat} : ∀ {n : Nat} {os : List (List Nat)} {x : List Nat}, x ∈ heads ls n os → ∃ o ∈ os, ∃ t : List Nat, t.length = n ∧ (∀ c ∈ t, c ∈ ls) ∧ x = o ++ t
  | 0, os, x, h => ⟨x, h, [], rfl, by simp, by simp⟩
  | n + 1, os, x, h => by
    obtain ⟨o, ho, t, hn, ht, rfl⟩ := heads_mem (n := n) h
    obtain ⟨o', ho', c, hc, rfl⟩ := growL_mem ho
    exact ⟨o', ho', c :: t, by simp [hn], by simpa using ⟨hc, ht⟩, by simp⟩
def ahC : DS := sSeq (sAsg 5 (eCall 2 M__law_word (aCons (eVar 0) (aCons (eVar 4) (aNil))))) (sIf (tAnd (t2 dIsNot (eVar 5) (eC .none)) (t2 dEq (eCut (eVar 1) (oSome (eB dMax2 (aCons (eC (.int 0)) (aCons (e2 dSub (eB dLen (aCons (eVar 1) (aNil))) (eB dLen (aCons (eVar 5) (aNil)))) (aNil))))) (oNone)) (eVar 5))) (sSeq (sAsg 6 (eFz (nLst (aCons (eVar 4) (aNil))))) (sSeq (sFor (iR1 (aCons (e2 dSub (e2 dIx (eVar 0) (eC (.int 0))) (eC (.int 1))) (aNil))) (gN 7) ahB) (sAsg 3 (e2 dAdd (eVar 3) (eFz (nLc [9] (iSeq (eVar 6)) (gN 9) (tTrue) (e2 dAdd (eVar 9) (eCut (eVar 1) (oNone) (oSome (e2 dSub (eB dLen (aCons (eVar 1) (aNil))) (eB dLen (aCons (eVar 5) (aNil))))))))))))) (sNil))
theorem max_sub (a b : Nat) : (if (a : Int) - b > 0 then (a : Int) - b else 0) = ((a - b : Nat) : Int) := by
  split <;> omega
theorem aheadC_len {r : Ru} (ok : r.Ok) (l : List Nat) (c : Nat) : (aheadC r l c).length ≤ 9 := by
  have h3 := ok.n3
  have c3 := ok.c3
  unfold aheadC
  cases wordOf r c with
  | none => simp
  | some w =>
    dsimp only
    split
    · rw [List.length_map, heads_len, lets_len ok]
      have : r.ws.length ^ (r.cut - 1) ≤ 3 ^ (r.cut - 1) := Nat.pow_le_pow_left h3 _
      have : 3 ^ (r.cut - 1) ≤ 3 ^ 2 := Nat.pow_le_pow_right (by decide) (by omega)
      simp; omega
    · simp
theorem ahC_step {r : Ru} (ok : r.Ok) {l : List Nat} (hl : l.length ≤ 100000) {c : Nat} (h1 : 97 ≤ c) (h2 : c < 97 + r.ws.length) {acc : List (List Nat)} (ha : acc.length ≤ 1000) (x5 x6 x7 x8 x9 x10 : Option LV) :
    ∃ x5' x6' x7' x8' x9', ahC [some (.fz (rD r)), some (.fz (sD l)), some (.fz (sD (lets r))), some (.fz (.list (acc.map sD))), some (.fz (sD [c])), x5, x6, x7, x8, x9, x10] =
      .nx [some (.fz (rD r)), some (.fz (sD l)), some (.fz (sD (lets r))), some (.fz (.list ((acc ++ aheadC r l c).map sD))), some (.fz (sD [c])), x5', x6', x7', x8', x9', x10] := by
  have h3 := ok.n3
  have c1 := ok.c1
  have c3 := ok.c3
  have hw := M_word_of_eq ok h1 h2
  rw [← lw_eq] at hw
  have al := aheadC_len ok l c
  unfold aheadC at al ⊢
  cases q : wordOf r c with
  | none =>
    rw [q] at hw
    refine ⟨some (.fz .none), x6, x7, x8, x9, ?_⟩
    simp [ahC, hw, wD]
  | some w =>
    rw [q] at hw
    have hx := (wordOf_ok ok q).1
    have hmx : dMax2 [.int 0, .int ((l.length : Int) - w.length)] = some (.int ((l.length - w.length : Nat) : Int)) := by rw [v_max2, max_sub]
    by_cases e : l.drop (l.length - w.length) = w
    · have hle : w.length ≤ l.length := by
        have := congrArg List.length e
        rw [List.length_drop] at this
        omega
      rw [q] at al
      dsimp only at al
      rw [if_pos e] at al
      obtain ⟨x7', x8', x9', lb⟩ := ahB_loop (lets r) (by rw [lets_len ok]; exact h3) (some (.fz (rD r))) (some (.fz (sD l))) (some (.fz (.list (acc.map sD)))) (some (.fz (sD [c]))) (some (.fz (sD w))) x10 (rangeD 0 (r.cut - 1)) [[c]] 1 x7 x8 x9 (by simp) (by rw [rangeD_len]; omega) (by
        rw [rangeD_len]
        have : 3 ^ (r.cut - 1 + 1) ≤ 3 ^ 3 := Nat.pow_le_pow_right (by decide) (by omega)
        simp; omega)
      rw [rangeD_len] at lb
      simp only [List.map_cons, List.map_nil] at lb
      generalize hhs : heads (lets r) (r.cut - 1) [[c]] = hs at lb al
      have hr : inR ((r.cut : Int) - 1) = true := inR_of (by omega) (by omega)
      have et : ((r.cut : Int) - 1).toNat = r.cut - 1 := by omega
      have z1 : 1 ≤ sizeLine := size1 (by omega)
      rw [List.length_map] at al
      have z2 : hs.length ≤ sizeLine := size1 (by omega)
      have z3 : acc.length + hs.length ≤ sizeLine := size1 (by omega)
      have e5 : ((l.length : Int) - w.length) = ((l.length - w.length : Nat) : Int) := by omega
      have hsl : ∀ o ∈ hs, o.length ≤ 10 := by
        intro o ho
        rw [← hhs] at ho
        obtain ⟨o', h1', t, ht, _, rfl⟩ := heads_mem ho
        simp at h1'
        subst h1'
        simp; omega
      have lc : lcL (gN 9) tTrue (e2 dAdd (eVar 9) (eCut (eVar 1) (oNone) (oSome (e2 dSub (eB dLen (aCons (eVar 1) (aNil))) (eB dLen (aCons (eVar 5) (aNil))))))) [some (.fz (rD r)), some (.fz (sD l)), some (.fz (sD (lets r))), some (.fz (.list (acc.map sD))), some (.fz (sD [c])), some (.fz (sD w)), some (.fz (.list (hs.map sD))), x7', x8', none, x10] (hs.map sD) = .ok (hs.map fun o => sD (o ++ l.take (l.length - w.length))) := by
        refine lcL_all _ _ _ fun o ho => ?_
        have := hsl o ho
        have z4 : o.length + (l.length - w.length) ≤ sizeLine := size1 (by omega)
        simp [e5, cutS_to, z4]
      refine ⟨some (.fz (sD w)), some (.fz (.list (hs.map sD))), x7', x8', x9', ?_⟩
      simp [ahC, hw, wD, -v_max2, hmx, cutS_from, e, z1, hr, et, lb, z2, z3, lc, hhs, Function.comp_def]
    · refine ⟨some (.fz (sD w)), x6, x7, x8, x9, ?_⟩
      simp [ahC, hw, wD, -v_max2, hmx, cutS_from, e]
theorem ahC_loop {r : Ru} (ok : r.Ok) {l : List Nat} (hl : l.length ≤ 100000) : ∀ (cs : List Nat) (acc : List (List Nat)) (x4 x5 x6 x7 x8 x9 x10 : Option LV), (∀ c ∈ cs, 97 ≤ c ∧ c < 97 + r.ws.length) → acc.length + 9 * cs.length ≤ 1000 →
    ∃ x4' x5' x6' x7' x8' x9', forL (gN 4) ahC (cs.map fun c => sD [c]) [some (.fz (rD r)), some (.fz (sD l)), some (.fz (sD (lets r))), some (.fz (.list (acc.map sD))), x4, x5, x6, x7, x8, x9, x10] =
      .nx [some (.fz (rD r)), some (.fz (sD l)), some (.fz (sD (lets r))), some (.fz (.list ((acc ++ cs.flatMap (aheadC r l)).map sD))), x4', x5', x6', x7', x8', x9', x10]
  | [], acc, x4, x5, x6, x7, x8, x9, x10, _, _ => ⟨x4, x5, x6, x7, x8, x9, by simp [forL]⟩
  | c :: cs, acc, x4, x5, x6, x7, x8, x9, x10, hc, ha => by
    simp only [List.length_cons] at ha
    obtain ⟨h1, h2⟩ := hc c (by simp)
    obtain ⟨y5, y6, y7, y8, y9, st⟩ := ahC_step ok hl h1 h2 (acc := acc) (by omega) x5 x6 x7 x8 x9 x10
    have al := aheadC_len ok l c
    obtain ⟨x4', x5', x6', x7', x8', x9', ih⟩ := ahC_loop ok hl cs (acc ++ aheadC r l c) (some (.fz (sD [c]))) y5 y6 y7 y8 y9 x10 (fun c h => hc c (by simp [h])) (by simp; omega)
    refine ⟨x4', x5', x6', x7', x8', x9', ?_⟩
    have e : forL (gN 4) ahC (sD [c] :: cs.map fun c => sD [c]) [some (.fz (rD r)), some (.fz (sD l)), some (.fz (sD (lets r))), some (.fz (.list (acc.map sD))), x4, x5, x6, x7, x8, x9, x10] = forL (gN 4) ahC (cs.map fun c => sD [c]) [some (.fz (rD r)), some (.fz (sD l)), some (.fz (sD (lets r))), some (.fz (.list ((acc ++ aheadC r l c).map sD))), some (.fz (sD [c])), y5, y6, y7, y8, y9, x10] := by
      simp [forL, st]
    rw [List.map_cons, e, ih]
    simp
theorem flatMap_len_le {α β : Type} {f : α → List β} {k : Nat} (h : ∀ a, (f a).length ≤ k) : ∀ l : List α, (l.flatMap f).length ≤ k * l.length
  | [] => by simp
  | a :: l => by
    have := flatMap_len_le h l
    have := h a
    simp only [List.flatMap_cons, List.length_append, List.length_cons, Nat.mul_succ]
    omega
def aheadM (r : Ru) (l : List Nat) : List (List Nat) := sortN (aheadU r l)
theorem M_ahead_eq {r : Ru} (ok : r.Ok) {l : List Nat} (hl : l.length ≤ 100000) : M__law_ahead [rD r, sD l] = .ok (.list ((aheadM r l).map sD)) := by
  have h3 := ok.n3
  obtain ⟨x4', x5', x6', x7', x8', x9', lp⟩ := ahC_loop ok hl (lets r) [] none none none none none none none (fun c h => (mem_lets ok).mp h) (by rw [lets_len ok]; simp; omega)
  simp only [List.nil_append, List.map_nil] at lp
  have hu := flatMap_len_le (fun c => aheadC_len ok l c) (lets r)
  rw [lets_len ok] at hu
  have hu2 : (aheadU r l).length < 64 := by unfold aheadU; omega
  have z : 0 ≤ sizeLine := Nat.zero_le _
  have e : M__law_ahead [rD r, sD l] = outD (Fl.seq (forL (gN 4) ahC ((lets r).map fun c => sD [c]) [some (.fz (rD r)), some (.fz (sD l)), some (.fz (sD (lets r))), some (.fz (.list [])), none, none, none, none, none, none, none]) (sRet (eFz (nB dSorted (aCons (eVar 3) (aNil)))))) := by
    simp [M__law_ahead, f__law_ahead, startE, ahC, ahB, ahA, cut_abc h3, lets]
  rw [e, lp]
  have sr := v_sorted (aheadU r l) hu2
  unfold aheadU at sr
  simp [sr, aheadM, aheadU]
theorem sortN_mem {ls : List (List Nat)} {x : List Nat} : x ∈ sortN ls ↔ x ∈ ls := List.mem_mergeSort
theorem aheadM_mem {r : Ru} (ok : r.Ok) {l x : List Nat} (hl : Lt r.ws.length l) (h : x ∈ aheadM r l) : Lt r.ws.length x ∧ ended r x = false ∧ next r x = l := by
  have c1 := ok.c1
  have h := sortN_mem.mp h
  obtain ⟨c, hc, hx⟩ := List.mem_flatMap.mp h
  have hc' := (mem_lets ok).mp hc
  unfold aheadC at hx
  cases q : wordOf r c with
  | none => rw [q] at hx; simp at hx
  | some w =>
    rw [q] at hx
    dsimp only at hx
    split at hx
    · rename_i e
      obtain ⟨o, ho, rfl⟩ := List.mem_map.mp hx
      obtain ⟨o', h1, t, ht, hm, rfl⟩ := heads_mem ho
      simp at h1
      subst h1
      refine ⟨?_, ?_, ?_⟩
      · refine Lt.append (Lt.append (fun d hd => ?_) fun d hd => (mem_lets ok).mp (hm d hd)) (hl.take _)
        simp at hd; subst hd; exact hc'
      · have h1 : ¬ ([c] ++ t ++ l.take (l.length - w.length)).length < r.cut := by
          rw [List.length_append, List.length_append, ht, List.length_singleton]; omega
        unfold ended
        rw [decide_eq_false h1, show ([c] ++ t ++ l.take (l.length - w.length)).headD 0 = c from rfl, q]; rfl
      · have e2 : ([c] ++ t ++ l.take (l.length - w.length)).drop r.cut = l.take (l.length - w.length) := by
          have hn : r.cut = ([c] ++ t).length := by rw [List.length_append, ht, List.length_singleton]; omega
          rw [hn]
          exact List.drop_left
        have e3 : next r ([c] ++ t ++ l.take (l.length - w.length)) = l.take (l.length - w.length) ++ w := by
          unfold DL.next
          rw [e2, show ([c] ++ t ++ l.take (l.length - w.length)).headD 0 = c from rfl, q]; rfl
        have e4 : l.take (l.length - w.length) ++ l.drop (l.length - w.length) = l := List.take_append_drop _ _
        rw [e] at e4
        rw [e3, e4]
    · simp at hx
/-! ### shared -/
def Fl.hand (r : Fl) (cs : List (Str × List Str)) (hs : List (Str × DS)) : Fl := match r with
  | .ex c ρ' => match cs.lookup c with
    | some sup => (match pick sup hs with
      | some g => g ρ'
      | none => .ex c ρ')
    | none => .bad
  | r => r
@[simp] theorem r_sTry (cs : List (Str × List Str)) (f : DS) (hs : List (Str × DS)) (ρ : En) : sTry cs f hs ρ = Fl.hand (f ρ) cs hs := id rfl
@[simp] theorem hand_nx (ρ : En) (cs : List (Str × List Str)) (hs : List (Str × DS)) : Fl.hand (.nx ρ) cs hs = .nx ρ := id rfl
@[simp] theorem hand_rt (d : PyData) (cs : List (Str × List Str)) (hs : List (Str × DS)) : Fl.hand (.rt d) cs hs = .rt d := id rfl
theorem depthAll_le : ∀ {ds : List PyData} {n : Nat}, (∀ d ∈ ds, d.depth ≤ n) → PyData.depthAll ds ≤ n
  | [], n, _ => Nat.zero_le _
  | d :: r, n, h => by
    show max d.depth (PyData.depthAll r) ≤ n
    exact Nat.max_le.mpr ⟨h d (by simp), depthAll_le fun x hx => h x (by simp [hx])⟩
theorem depth_strs (ls : List (List Nat)) : (PyData.list (ls.map sD)).depth ≤ 64 := by
  show PyData.depthAll (ls.map sD) + 1 ≤ 64
  have := depthAll_le (ds := ls.map sD) (n := 0) fun d hd => by
    obtain ⟨l, _, rfl⟩ := List.mem_map.mp hd
    exact Nat.le_refl 0
  omega
theorem dNe_self (d : PyData) (h : d.depth ≤ 64) (hc : PyData.eqv d d = true) : dNe d d = some (.bool false) := by
  unfold dNe
  rw [if_pos (by simp [h]), hc]; rfl
theorem dEq_self (d : PyData) (h : d.depth ≤ 64) (hc : PyData.eqv d d = true) : dEq d d = some (.bool true) := by
  unfold dEq
  rw [if_pos (by simp [h]), hc]
theorem eqvAll_strs : ∀ ls : List (List Nat), PyData.eqvAll (ls.map sD) (ls.map sD) = true
  | [] => rfl
  | l :: r => by
    show (PyData.eqv (sD l) (sD l) && PyData.eqvAll (r.map sD) (r.map sD)) = true
    rw [eqvAll_strs r]
    simp [PyData.eqv]
theorem dNe_strs (ls : List (List Nat)) : dNe (.list (ls.map sD)) (.list (ls.map sD)) = some (.bool false) := dNe_self _ (depth_strs ls) (eqvAll_strs ls)
theorem getLast_at {α : Type} {l : List α} {x : α} (h : l.getLast? = some x) : atI l (-1) = some x := by
  obtain ⟨l', rfl⟩ := List.getLast?_eq_some_iff.mp h
  exact atI_last _ _
theorem at2 {p : Int} (a b : PyData) (h0 : 0 ≤ p) (h3 : p < 2) : atI [a, b] p = some (if p = 0 then a else b) := by
  have : p = 0 ∨ p = 1 := by omega
  rcases this with rfl | rfl <;> rfl
theorem dEq_strs (ls : List (List Nat)) : dEq (.list (ls.map sD)) (.list (ls.map sD)) = some (.bool true) := dEq_self _ (depth_strs ls) (eqvAll_strs ls)
theorem seq_step {f g : DS} {ρ ρ' : En} (h : f ρ = .nx ρ') : sSeq f g ρ = g ρ' := by rw [r_sSeq, h, seq_nx]
theorem seq_stop {f g : DS} {ρ : En} {d : PyData} (h : f ρ = .rt d) : sSeq f g ρ = .rt d := by rw [r_sSeq, h, seq_rt]
theorem cutL_nat {α : Type} (xs : List α) {i j : Nat} (h1 : i ≤ j) (h2 : j ≤ xs.length) : cutL xs (some (i : Int)) (some (j : Int)) = (xs.drop i).take (j - i) := by
  unfold cutL
  rw [HT.sIx_nat, HT.sIx_nat, Nat.min_eq_left h2, Nat.min_eq_left (Nat.le_trans h1 h2)]
theorem courseM_lt {r : Ru} (ok : r.Ok) : ∀ (n : Nat) {l : List Nat}, Lt r.ws.length l → ∀ x ∈ courseM r l n, Lt r.ws.length x
  | 0, l, h, x, hx => by simp [courseM] at hx; subst hx; exact h
  | n + 1, l, h, x, hx => by
    unfold courseM at hx
    split at hx
    · simp at hx; subst hx; exact h
    · rcases List.mem_cons.mp hx with e | hx
      · rw [e]; exact h
      · exact courseM_lt ok n (h.next ok) x hx
theorem courseM_head (r : Ru) (n : Nat) (l : List Nat) : ∃ t, courseM r l n = l :: t := by
  cases n with
  | zero => exact ⟨[], rfl⟩
  | succ n =>
    unfold courseM
    split
    · exact ⟨[], rfl⟩
    · exact ⟨_, rfl⟩
theorem courseM_drop (r : Ru) : ∀ (n : Nat) (l : List Nat) (i : Nat) (x : List Nat), (courseM r l n)[i]? = some x → i ≤ n ∧ (courseM r l n).drop i = courseM r x (n - i)
  | n, l, 0, x, h => by
    obtain ⟨t, e⟩ := courseM_head r n l
    rw [e] at h
    simp at h
    subst h
    exact ⟨Nat.zero_le _, by simp⟩
  | 0, l, i + 1, x, h => by simp [courseM] at h
  | n + 1, l, i + 1, x, h => by
    have ec : courseM r l (n + 1) = if ended r l then [l] else l :: courseM r (next r l) n := rfl
    rw [ec] at h ⊢
    split at h
    · simp at h
    · rename_i q
      rw [if_neg q]
      rw [List.getElem?_cons_succ] at h
      obtain ⟨h1, h2⟩ := courseM_drop r n (next r l) i x h
      refine ⟨by omega, ?_⟩
      rw [List.drop_succ_cons, h2, Nat.add_sub_add_right]
theorem courseM_take (r : Ru) : ∀ (n m : Nat) (l : List Nat) (k : Nat), k ≤ (courseM r l n).length → k ≤ (courseM r l m).length → (courseM r l n).take k = (courseM r l m).take k
  | _, _, _, 0, _, _ => by simp
  | 0, m, l, k + 1, h1, h2 => by
    obtain ⟨t, e⟩ := courseM_head r m l
    have : k = 0 := by simpa [courseM] using h1
    subst this
    simp [courseM, e]
  | n + 1, 0, l, k + 1, h1, h2 => by
    obtain ⟨t, e⟩ := courseM_head r (n + 1) l
    have : k = 0 := by simpa [courseM] using h2
    subst this
    rw [e]; simp [courseM]
  | n + 1, m + 1, l, k + 1, h1, h2 => by
    unfold courseM at h1 h2 ⊢
    split
    · rfl
    · rename_i q
      rw [if_neg q] at h1 h2
      rw [List.take_succ_cons, List.take_succ_cons, courseM_take r n m (next r l) k (by simpa using h1) (by simpa using h2)]
end DL
namespace DL
open PySem PySem.Spec L2
def f__law_image : DS := sSeq (sAsg 2 (eC (.str ""))) (sSeq (sFor (iR3 (aCons (eC (.int 0)) (aCons (eB dLen (aCons (eVar 1) (aNil))) (aCons (e2 dIx (eVar 0) (eC (.int 0))) (aNil))))) (gN 3) (sAsg 2 (e2 dAdd (eVar 2) (eCall 2 M__law_word (aCons (eVar 0) (aCons (e2 dIx (eVar 1) (eVar 3)) (aNil))))))) (sRet (eVar 2)))
def M__law_image : List D → Rs D := fun ds => outD (f__law_image (startE 4 ds))

def f__law_whole : DS := sSeq (sIf (t2 dGt (e2 dMod (eB dLen (aCons (eVar 1) (aNil))) (e2 dIx (eVar 0) (eC (.int 0)))) (eC (.int 0))) (sRet (eC (.bool false))) (sNil)) (sSeq (sFor (iR3 (aCons (eC (.int 0)) (aCons (eB dLen (aCons (eVar 1) (aNil))) (aCons (e2 dIx (eVar 0) (eC (.int 0))) (aNil))))) (gN 2) (sIf (t2 dIs (eCall 2 M__law_word (aCons (eVar 0) (aCons (e2 dIx (eVar 1) (eVar 2)) (aNil)))) (eC .none)) (sRet (eC (.bool false))) (sNil))) (sRet (eC (.bool true))))
def M__law_whole : List D → Rs D := fun ds => outD (f__law_whole (startE 3 ds))

def f__law_share : DS := sSeq (sIf (tOr (t2 dEq (eVar 1) (eC (.str ""))) (tNot (tTru (eCall 2 M__law_whole (aCons (eVar 0) (aCons (eVar 1) (aNil))))))) (sRet (eC .none)) (sNil)) (sSeq (sAsg 2 (eCall 2 M__law_image (aCons (eVar 0) (aCons (eVar 1) (aNil))))) (sRet (eIf (t2 dEq (e2 dMul (eVar 1) (e2 dDiv (eB dLen (aCons (eVar 2) (aNil))) (eB dLen (aCons (eVar 1) (aNil))))) (eVar 2)) (e2 dDiv (eB dLen (aCons (eVar 2) (aNil))) (eB dLen (aCons (eVar 1) (aNil)))) (eC .none))))
def M__law_share : List D → Rs D := fun ds => outD (f__law_share (startE 3 ds))

def f__law_fate : DS := sSeq (sOwn 2 (nLst (aNil))) (sSeq (sWhile 1000 (tAnd (t2 dLe (eB dLen (aCons (eVarB 2) (aNil))) (eC (.int 200))) (t2 dLe (eB dLen (aCons (eVar 1) (aNil))) (eC (.int 120)))) (sSeq (sIf (tTru (eCall 2 M__law_ended (aCons (eVar 0) (aCons (eVar 1) (aNil))))) (sRet (eTup (aCons (eC (.str "ends")) (aCons (eB dLen (aCons (eVarB 2) (aNil))) (aCons (eVar 1) (aNil)))))) (sNil)) (sSeq (sIf (t2 dIn (eVar 1) (eVarB 2)) (sRet (eTup (aCons (eC (.str "round")) (aCons (eM "list" dLIdx (eVarB 2) (aCons (eVar 1) (aNil))) (aCons (e2 dSub (eB dLen (aCons (eVarB 2) (aNil))) (eM "list" dLIdx (eVarB 2) (aCons (eVar 1) (aNil)))) (aNil)))))) (sNil)) (sSeq (sFor (iR2 (aCons (eC (.int 1)) (aCons (e2 dAdd (eB dLen (aCons (eVar 1) (aNil))) (eC (.int 1))) (aNil)))) (gN 3) (sSeq (sAsg 4 (eCut (eVar 1) (oNone) (oSome (eVar 3)))) (sIf (tAnd (t2 dEq (e2 dMul (eVar 4) (e2 dDiv (eB dLen (aCons (eVar 1) (aNil))) (eVar 3))) (eVar 1)) (t2 dIsNot (eCall 2 M__law_share (aCons (eVar 0) (aCons (eVar 4) (aNil)))) (eC .none))) (sSeq (sIf (t2 dGt (eCall 2 M__law_share (aCons (eVar 0) (aCons (eVar 4) (aNil)))) (eC (.int 1))) (sRet (eTup (aCons (eC (.str "grows")) (aCons (eB dLen (aCons (eVarB 2) (aNil))) (aCons (eVar 4) (aCons (eCall 2 M__law_share (aCons (eVar 0) (aCons (eVar 4) (aNil)))) (aNil))))))) (sNil)) (sBreak)) (sNil)))) (sSeq (sApp 2 (eVar 1)) (sAsg 1 (e2 dIx (eCall 3 M__law_course (aCons (eVar 0) (aCons (eVar 1) (aCons (eC (.int 1)) (aNil))))) (e1 dNeg (eC (.int 1)))))))))) (sRet (eTup (aCons (eC (.str "far")) (aCons (eB dLen (aCons (eVarB 2) (aNil))) (aCons (eB dLen (aCons (eVar 1) (aNil))) (aNil)))))))
def M__law_fate : List D → Rs D := fun ds => outD (f__law_fate (startE 5 ds))

def f_times_of : DS := sSeq (sIf (tOr (t2 dGt (e2 dMod (eB dLen (aCons (eVar 1) (aNil))) (eB dLen (aCons (eVar 0) (aNil)))) (eC (.int 0))) (t2 dNe (e2 dMul (eVar 0) (e2 dDiv (eB dLen (aCons (eVar 1) (aNil))) (eB dLen (aCons (eVar 0) (aNil))))) (eVar 1))) (sRet (eC .none)) (sNil)) (sRet (e2 dDiv (eB dLen (aCons (eVar 1) (aNil))) (eB dLen (aCons (eVar 0) (aNil)))))
def M_times_of : List D → Rs D := fun ds => outD (f_times_of (startE 2 ds))

def f_told_of : DS := sRet (eM "str" dJoin (eC (.str "")) (aCons (eFz (nLc [2] (iSeq (e2 dStep (eVar 1) (e2 dIx (eVar 0) (eC (.int 0))))) (gN 2) (tTrue) (eCall 2 M_word_of (aCons (eVar 0) (aCons (eVar 2) (aNil)))))) (aNil)))
def M_told_of : List D → Rs D := fun ds => outD (f_told_of (startE 3 ds))

def f_is_whole : DS := sSeq (sIf (t2 dGt (e2 dMod (eB dLen (aCons (eVar 1) (aNil))) (e2 dIx (eVar 0) (eC (.int 0)))) (eC (.int 0))) (sRet (eC (.bool false))) (sNil)) (sRet (eNot (eFz (nLc [2] (iSeq (e2 dStep (eVar 1) (e2 dIx (eVar 0) (eC (.int 0))))) (gN 2) (t2 dIs (eCall 2 M_word_of (aCons (eVar 0) (aCons (eVar 2) (aNil)))) (eC .none)) (eVar 2)))))
def M_is_whole : List D → Rs D := fun ds => outD (f_is_whole (startE 3 ds))

def f_share : DS := sSeq (sIf (tOr (t2 dEq (eVar 1) (eC (.str ""))) (tNot (tTru (eCall 2 M_is_whole (aCons (eVar 0) (aCons (eVar 1) (aNil))))))) (sRet (eC .none)) (sNil)) (sRet (eCall 2 M_times_of (aCons (eVar 1) (aCons (eCall 2 M_told_of (aCons (eVar 0) (aCons (eVar 1) (aNil)))) (aNil)))))
def M_share : List D → Rs D := fun ds => outD (f_share (startE 2 ds))

def f_part_of : DS := sSeq (sFor (iR2 (aCons (eC (.int 1)) (aCons (e2 dAdd (eB dLen (aCons (eVar 1) (aNil))) (eC (.int 1))) (aNil)))) (gN 2) (sIf (t2 dIsNot (eCall 2 M_times_of (aCons (eCut (eVar 1) (oNone) (oSome (eVar 2))) (aCons (eVar 1) (aNil)))) (eC .none)) (sSeq (sAsg 3 (eCall 2 M_share (aCons (eVar 0) (aCons (eCut (eVar 1) (oNone) (oSome (eVar 2))) (aNil))))) (sIf (t2 dIsNot (eVar 3) (eC .none)) (sRet (eTup (aCons (eCut (eVar 1) (oNone) (oSome (eVar 2))) (aCons (eVar 3) (aNil))))) (sNil))) (sNil))) (sRet (eC .none))
def M_part_of : List D → Rs D := fun ds => outD (f_part_of (startE 4 ds))

def f_fate_of : DS := sSeq (sNewK 2) (sSeq (sAsg 3 (eC (.int 0))) (sSeq (sWhile 1000 (tAnd (t2 dLe (eVar 3) (eC (.int 200))) (t2 dLe (eB dLen (aCons (eVar 1) (aNil))) (eC (.int 120)))) (sSeq (sIf (tTru (eCall 2 M_has_ended (aCons (eVar 0) (aCons (eVar 1) (aNil))))) (sRet (eTup (aCons (eC (.str "ends")) (aCons (eVar 3) (aCons (eVar 1) (aNil)))))) (sNil)) (sSeq (sIf (tInK 2 (eVar 1)) (sRet (eTup (aCons (eC (.str "round")) (aCons (eGetK 2 (eVar 1)) (aCons (e2 dSub (eVar 3) (eGetK 2 (eVar 1))) (aNil)))))) (sNil)) (sSeq (sAsg 4 (eCall 2 M_part_of (aCons (eVar 0) (aCons (eVar 1) (aNil))))) (sSeq (sIf (tAnd (t2 dIsNot (eVar 4) (eC .none)) (t2 dGt (e2 dIx (eVar 4) (eC (.int 1))) (eC (.int 1)))) (sRet (eTup (aCons (eC (.str "grows")) (aCons (eVar 3) (aCons (e2 dIx (eVar 4) (eC (.int 0))) (aCons (e2 dIx (eVar 4) (eC (.int 1))) (aNil))))))) (sNil)) (sSeq (sPutK 2 (eVar 1) (eVar 3)) (sSeq (sAsg 1 (eCall 2 M_next_of (aCons (eVar 0) (aCons (eVar 1) (aNil))))) (sAug 3 dAddI (eC (.int 1)))))))))) (sRet (eTup (aCons (eC (.str "far")) (aCons (eVar 3) (aCons (eB dLen (aCons (eVar 1) (aNil))) (aNil))))))))
def M_fate_of : List D → Rs D := fun ds => outD (f_fate_of (startE 5 ds))

def f_fate : DS := sSeq (sExpr (eCall 2 M_look_row (aCons (eVar 0) (aCons (eVar 1) (aNil))))) (sRet (eCall 2 M_fate_of (aCons (eVar 0) (aCons (eVar 1) (aNil)))))
def M_fate : List D → Rs D := fun ds => outD (f_fate (startE 2 ds))

def f_longest : DS := sSeq (sExpr (eCall 2 M_look_row (aCons (eVar 0) (aCons (eVar 1) (aNil))))) (sSeq (sAsg 2 (eCall 2 M_fate_of (aCons (eVar 0) (aCons (eVar 1) (aNil))))) (sSeq (sIf (t2 dIn (e2 dIx (eVar 2) (eC (.int 0))) (eTup (aCons (eC (.str "grows")) (aCons (eC (.str "far")) (aNil))))) (sRet (eC .none)) (sNil)) (sSeq (sAsg 3 (eTup (aCons (eVar 1) (aCons (eC (.int 0)) (aNil))))) (sSeq (sAsg 4 (eIf (t2 dEq (e2 dIx (eVar 2) (eC (.int 0))) (eC (.str "ends"))) (e2 dIx (eVar 2) (eC (.int 1))) (e2 dSub (e2 dAdd (e2 dIx (eVar 2) (eC (.int 1))) (e2 dIx (eVar 2) (eC (.int 2)))) (eC (.int 1))))) (sSeq (sFor (iR2 (aCons (eC (.int 1)) (aCons (e2 dAdd (eVar 4) (eC (.int 1))) (aNil)))) (gN 5) (sSeq (sAsg 1 (eCall 2 M_next_of (aCons (eVar 0) (aCons (eVar 1) (aNil))))) (sIf (t2 dGt (eB dLen (aCons (eVar 1) (aNil))) (eB dLen (aCons (e2 dIx (eVar 3) (eC (.int 0))) (aNil)))) (sAsg 3 (eTup (aCons (eVar 1) (aCons (eVar 5) (aNil))))) (sNil)))) (sRet (eVar 3)))))))
def M_longest : List D → Rs D := fun ds => outD (f_longest (startE 6 ds))

def f_behind : DS := sSeq (sFor (iR1 (aCons (eVar 2) (aNil))) (gN 3) (sSeq (sIf (tTru (eCall 2 M_has_ended (aCons (eVar 0) (aCons (eVar 1) (aNil))))) (sRet (eC .none)) (sNil)) (sAsg 1 (eCall 2 M_next_of (aCons (eVar 0) (aCons (eVar 1) (aNil))))))) (sRet (eVar 1))
def M_behind : List D → Rs D := fun ds => outD (f_behind (startE 4 ds))

def f_is_fate : DS := sSeq (sExpr (eCall 2 M_look_row (aCons (eVar 0) (aCons (eVar 1) (aNil))))) (sSeq (sIf (tOr (tNot (tTru (eIsi "tuple" (eVar 2)))) (tOr (t2 dNotIn (eB dLen (aCons (eVar 2) (aNil))) (eTup (aCons (eC (.int 3)) (aCons (eC (.int 4)) (aNil))))) (tNot (tTru (eIsi "str" (e2 dIx (eVar 2) (eC (.int 0)))))))) (sRet (eC (.bool false))) (sNil)) (sSeq (sIf (tNot (tTru (eCall 3 M_is_within (aCons (e2 dIx (eVar 2) (eC (.int 1))) (aCons (eC (.int 0)) (aCons (eC (.int 200)) (aNil))))))) (sRet (eC (.bool false))) (sNil)) (sSeq (sAsg 3 (eCall 3 M_behind (aCons (eVar 0) (aCons (eVar 1) (aCons (e2 dIx (eVar 2) (eC (.int 1))) (aNil)))))) (sSeq (sIf (t2 dIs (eVar 3) (eC .none)) (sRet (eC (.bool false))) (sNil)) (sSeq (sIf (t2 dEq (e2 dIx (eVar 2) (eC (.int 0))) (eC (.str "ends"))) (sRet (eAnd (e2 dEq (eB dLen (aCons (eVar 2) (aNil))) (eC (.int 3))) (eAnd (eIsi "str" (e2 dIx (eVar 2) (eC (.int 2)))) (eAnd (e2 dEq (e2 dIx (eVar 2) (eC (.int 2))) (eVar 3)) (eCall 2 M_has_ended (aCons (eVar 0) (aCons (eVar 3) (aNil)))))))) (sNil)) (sSeq (sIf (t2 dEq (e2 dIx (eVar 2) (eC (.int 0))) (eC (.str "round"))) (sSeq (sIf (tOr (t2 dNe (eB dLen (aCons (eVar 2) (aNil))) (eC (.int 3))) (tNot (tTru (eCall 3 M_is_within (aCons (e2 dIx (eVar 2) (eC (.int 2))) (aCons (eC (.int 1)) (aCons (eC (.int 200)) (aNil)))))))) (sRet (eC (.bool false))) (sNil)) (sRet (e2 dEq (eCall 3 M_behind (aCons (eVar 0) (aCons (eVar 3) (aCons (e2 dIx (eVar 2) (eC (.int 2))) (aNil))))) (eVar 3)))) (sNil)) (sSeq (sIf (tOr (t2 dNe (e2 dIx (eVar 2) (eC (.int 0))) (eC (.str "grows"))) (tOr (t2 dNe (eB dLen (aCons (eVar 2) (aNil))) (eC (.int 4))) (tOr (tNot (tTru (eIsi "str" (e2 dIx (eVar 2) (eC (.int 2)))))) (tOr (t2 dEq (e2 dIx (eVar 2) (eC (.int 2))) (eC (.str ""))) (t2 dEq (eVar 3) (eC (.str ""))))))) (sRet (eC (.bool false))) (sNil)) (sSeq (sIf (tOr (tTru (eFz (nLc [4] (iSeq (e2 dIx (eVar 2) (eC (.int 2)))) (gN 4) (t2 dNotIn (eVar 4) (eCut (eC (.str "abc")) (oNone) (oSome (eB dLen (aCons (e2 dIx (eVar 0) (eC (.int 1))) (aNil)))))) (eVar 4)))) (t2 dIs (eCall 2 M_times_of (aCons (e2 dIx (eVar 2) (eC (.int 2))) (aCons (eVar 3) (aNil)))) (eC .none))) (sRet (eC (.bool false))) (sNil)) (sRet (eAnd (eCall 3 M_is_within (aCons (e2 dIx (eVar 2) (eC (.int 3))) (aCons (eC (.int 2)) (aCons (eC (.int 99)) (aNil))))) (e2 dEq (eCall 2 M_share (aCons (eVar 0) (aCons (e2 dIx (eVar 2) (eC (.int 2))) (aNil)))) (e2 dIx (eVar 2) (eC (.int 3))))))))))))))
def M_is_fate : List D → Rs D := fun ds => outD (f_is_fate (startE 5 ds))

end DL
namespace DL
open PySem PySem.Spec L2
theorem small_pos {len c : Nat} (h1 : 1 ≤ c) (h3 : c ≤ 1000) (hl : len ≤ 1000000) : Builtin.Range.small 0 (len : Int) (c : Int) = true := by
  unfold Builtin.Range.small
  rw [PyProof.Rows.rangeSize_pos (by omega) (by omega)]
  have hn0 : 0 ≤ ((len : Int) + c - 1) / c := Int.ediv_nonneg (by omega) (by omega)
  have hn1 : ((len : Int) + c - 1) / c ≤ (len : Int) + c - 1 := Int.ediv_le_self _ (by omega)
  generalize ((len : Int) + c - 1) / c = n at *
  simp only [Builtin.Range.rangeFitsLong, Bool.and_eq_true, Bool.or_eq_true, decide_eq_true_eq, beq_iff_eq, show (c : Int) > 0 by omega, if_true]
  omega
def cnt (c n : Nat) : Nat := (n + c - 1) / c
theorem rng3_eq {len c : Nat} (h1 : 1 ≤ c) (h3 : c ≤ 1000) (hl : len ≤ 1000000) : rng3 [.int 0, .int len, .int c] = .ok (rangeC 0 c (cnt c len)) := by
  have e : Builtin.Range.rangeSize 0 (len : Int) (c : Int) = ((cnt c len : Nat) : Int) := by
    rw [PyProof.Rows.rangeSize_pos (by omega) (by omega)]
    unfold cnt
    rw [Int.natCast_ediv, show ((len + c - 1 : Nat) : Int) = (len : Int) + c - 1 by omega]
  show (if _ then _ else _) = _
  rw [if_pos ⟨by omega, by omega, small_pos h1 h3 hl, by rw [e]; omega⟩, e, Int.toNat_natCast]
theorem cnt_lt {c n j : Nat} (h1 : 1 ≤ c) (h : j < cnt c n) : c * j < n := by
  unfold cnt at h
  rw [Nat.lt_div_iff_mul_lt (by omega)] at h
  rw [Nat.mul_comm]
  omega
@[simp] theorem r_iR3 {fs : En → Rs (List PyData)} {ρ : En} : iR3 fs ρ = (fs ρ).bind rng3 := id rfl
theorem v_step (l : List Nat) {c : Nat} (h : 1 ≤ c) : dStep (sD l) (.int c) = some (sD (stepL c l)) := by
  have e : dStep (sD l) (.int c) = if (0 : Int) < c then some (.str (stepS (S l) c)) else none := rfl
  rw [e, if_pos (by omega)]
  simp [stepS, S]
theorem stepL_mem {c : Nat} {l : List Nat} {x : Nat} (h : x ∈ stepL c l) : x ∈ l := by
  obtain ⟨j, _, hj⟩ := List.mem_filterMap.mp h
  exact List.mem_of_getElem? hj
theorem stepL_len {c : Nat} (h1 : 1 ≤ c) (l : List Nat) : (stepL c l).length ≤ l.length := by
  unfold stepL
  refine Nat.le_trans (List.length_filterMap_le _ _) ?_
  rw [List.length_range]
  have : (l.length + c - 1) / c ≤ l.length := by
    rw [Nat.div_le_iff_le_mul_add_pred (by omega)]
    have : l.length ≤ c * l.length := Nat.le_mul_of_pos_left _ (by omega)
    omega
  exact this
theorem Lt.step {n c : Nat} {l : List Nat} (h : Lt n l) : Lt n (stepL c l) := fun x hx => h x (stepL_mem hx)
def isSomeW (r : Ru) (c : Nat) : Bool := (wordOf r c).isSome
def whole (r : Ru) (l : List Nat) : Bool := decide (l.length % r.cut = 0) && (stepL r.cut l).all (isSomeW r)
def imageM (r : Ru) (l : List Nat) : List Nat := (stepL r.cut l).flatMap fun c => (wordOf r c).getD []
def timesOf (p w : List Nat) : Option Nat := if w.length % p.length = 0 ∧ rp (w.length / p.length) p = w then some (w.length / p.length) else none
def shareM (r : Ru) (p : List Nat) : Option Nat := if p = [] ∨ whole r p = false then none else timesOf p (imageM r p)
def oD : Option Nat → PyData
  | none => .none
  | some n => .int n
theorem S_nil : (Str.ofString "") = S [] := by decide +kernel
theorem v_modN {a b : Nat} (h : 0 < b) : dMod (.int a) (.int b) = some (.int ((a % b : Nat) : Int)) := by
  rw [v_mod, if_pos (by omega), Int.natCast_emod]
theorem v_divN {a b : Nat} (h : 0 < b) (h2 : b ≤ 1000000) : dDiv (.int a) (.int b) = some (.int ((a / b : Nat) : Int)) := by
  rw [v_div, if_pos (by omega), Int.natCast_ediv]
theorem M_is_whole_eq {r : Ru} (ok : r.Ok) {l : List Nat} (h : Lt r.ws.length l) (hl : l.length ≤ 100000) : M_is_whole [rD r, sD l] = .ok (.bool (whole r l)) := by
  have c1 := ok.c1
  have hm := v_modN (a := l.length) (b := r.cut) c1
  by_cases q : l.length % r.cut = 0
  · have st := v_step l c1
    have sl := stepL_len c1 l
    have z : (stepL r.cut l).length ≤ sizeLine := size1 (by omega)
    have hs := h.step (c := r.cut)
    have ew : whole r l = (stepL r.cut l).all (isSomeW r) := by simp [whole, q]
    generalize stepL r.cut l = s at st z hs ew
    have lc : lcL (gN 2) (t2 dIs (eCall 2 M_word_of (aCons (eVar 0) (aCons (eVar 2) (aNil)))) (eC .none)) (eVar 2) [some (.fz (rD r)), some (.fz (sD l)), none] (s.map fun c => sD [c]) = .ok ((s.filter fun c => !isSomeW r c).map fun c => sD [c]) := by
      refine lcL_map _ _ _ s fun c hc => ?_
      have hw := M_word_of_eq ok (hs c hc).1 (hs c hc).2
      constructor
      · cases q : wordOf r c <;> simp [hw, wD, q, isSomeW]
      · intro _; simp
    have e0 : (s.filter fun c => !isSomeW r c).isEmpty = s.all (isSomeW r) := by
      rw [Bool.eq_iff_iff]
      simp
    rw [ew, ← e0]
    rw [q] at hm
    simp [M_is_whole, f_is_whole, startE, -v_mod, hm, st, z, lc]
  · have ew : whole r l = false := by simp [whole, q]
    have q3 : 0 < l.length % r.cut := by omega
    rw [ew]
    generalize l.length % r.cut = m at hm q3
    simp [M_is_whole, f_is_whole, startE, -v_mod, hm, q3]
theorem whole_all {r : Ru} {l : List Nat} (h : whole r l = true) : ∀ c ∈ stepL r.cut l, ∃ x, wordOf r c = some x := by
  intro c hc
  simp only [whole, Bool.and_eq_true, List.all_eq_true] at h
  exact Option.isSome_iff_exists.mp (h.2 c hc)
theorem flat_len {r : Ru} (ok : r.Ok) : ∀ cs : List Nat, (cs.flatMap fun c => (wordOf r c).getD []).length ≤ 4 * cs.length := fun cs => flatMap_len_le (fun c => by
  cases q : wordOf r c with
  | none => simp
  | some x => exact (wordOf_ok ok q).1) cs
theorem imageM_len {r : Ru} (ok : r.Ok) (l : List Nat) : (imageM r l).length ≤ 4 * l.length := by
  have := flat_len ok (stepL r.cut l)
  have := stepL_len ok.c1 l
  unfold imageM; omega
theorem M_told_of_eq {r : Ru} (ok : r.Ok) {l : List Nat} (h : Lt r.ws.length l) (hl : l.length ≤ 100000) (hw : whole r l = true) : M_told_of [rD r, sD l] = .ok (sD (imageM r l)) := by
  have c1 := ok.c1
  have st := v_step l c1
  have sl := stepL_len c1 l
  have z : (stepL r.cut l).length ≤ sizeLine := size1 (by omega)
  have hs := h.step (c := r.cut)
  have ha := whole_all hw
  have il := imageM_len ok l
  unfold imageM at il ⊢
  generalize stepL r.cut l = s at st z hs ha il
  have lc : lcL (gN 2) tTrue (eCall 2 M_word_of (aCons (eVar 0) (aCons (eVar 2) (aNil)))) [some (.fz (rD r)), some (.fz (sD l)), none] (s.map fun c => sD [c]) = .ok (s.map fun c => sD ((wordOf r c).getD [])) := by
    refine lcL_all _ _ s fun c hc => ?_
    have hw := M_word_of_eq ok (hs c hc).1 (hs c hc).2
    obtain ⟨x, hx⟩ := ha c hc
    simp [hw, hx, wD]
  have e1 : (s.map fun c => sD ((wordOf r c).getD [])) = (s.map fun c => (wordOf r c).getD []).map sD := by simp
  have vj := v_join (s.map fun c => (wordOf r c).getD []) (by rw [← List.length_flatten, ← List.flatMap_def]; exact size1 (by omega))
  rw [← List.flatMap_def] at vj
  rw [e1] at lc
  simp [M_told_of, f_told_of, startE, st, z, lc, -List.map_map, vj]
theorem rp_zero (p : List Nat) : rp 0 p = [] := rfl
theorem v_mulS (p : List Nat) {k : Nat} (h : p.length * k ≤ 1000000) (hk : k ≤ 1000000) : dMul (sD p) (.int k) = some (sD (rp k p)) := by
  rw [v_mul2, if_pos ⟨by omega, by omega, by rw [S_len, Int.toNat_natCast]; exact size1 (by omega)⟩, strRep_S, Int.toNat_natCast]
theorem M_times_of_eq {p w : List Nat} (hp : 0 < p.length) (hpl : p.length ≤ 1000000) (hw : w.length ≤ 1000000) : M_times_of [sD p, sD w] = .ok (oD (timesOf p w)) := by
  have hm := v_modN (a := w.length) (b := p.length) hp
  have hd := v_divN (a := w.length) (b := p.length) hp hpl
  have hk : w.length / p.length ≤ w.length := Nat.div_le_self _ _
  have hkp : p.length * (w.length / p.length) ≤ w.length := Nat.mul_div_le _ _
  have hx := v_mulS p (k := w.length / p.length) (by omega) (by omega)
  unfold timesOf
  generalize w.length / p.length = k at *
  by_cases q : w.length % p.length = 0
  · rw [q] at hm ⊢
    by_cases q2 : rp k p = w
    · rw [if_pos ⟨rfl, q2⟩]
      simp [M_times_of, f_times_of, startE, -v_mod, -v_div, -v_mul2, hm, hd, hx, q2, oD]
    · rw [if_neg fun z => q2 z.2]
      simp [M_times_of, f_times_of, startE, -v_mod, -v_div, -v_mul2, hm, hd, hx, q2, oD]
  · rw [if_neg fun z => q z.1]
    have q3 : 0 < w.length % p.length := by omega
    generalize w.length % p.length = m at *
    simp [M_times_of, f_times_of, startE, -v_mod, -v_div, -v_mul2, hm, q3, oD]
theorem M_share_eq {r : Ru} (ok : r.Ok) {p : List Nat} (h : Lt r.ws.length p) (hl : p.length ≤ 10000) : M_share [rD r, sD p] = .ok (oD (shareM r p)) := by
  have hw := M_is_whole_eq ok h (by omega)
  unfold shareM
  by_cases q : p = []
  · rw [if_pos (.inl q)]
    subst q
    simp [M_share, f_share, startE, S_nil, oD]
  · have hp : 0 < p.length := List.length_pos_iff.mpr q
    cases q2 : whole r p with
    | false =>
      rw [if_pos (.inr rfl)]
      rw [q2] at hw
      simp [M_share, f_share, startE, S_nil, q, hw, oD]
    | true =>
      rw [if_neg (by rintro (z | z); exact q z; cases z)]
      rw [q2] at hw
      have ht := M_told_of_eq ok h (by omega) q2
      have il := imageM_len ok p
      have hx := M_times_of_eq (p := p) (w := imageM r p) hp (by omega) (by omega)
      simp [M_share, f_share, startE, S_nil, q, hw, ht, hx]
end DL
namespace DL
open PySem PySem.Spec L2
theorem ix_sD {l : List Nat} {k c : Nat} (h : l[k]? = some c) : dIx (sD l) (.int k) = some (sD [c]) := by
  rw [v_ix3]
  rw [atI_nat (v := c) (by simpa using h)]
  rfl
theorem rangeC_eq (c n : Nat) : rangeC 0 (c : Int) n = (List.range n).map fun j => PyData.int ((c * j : Nat) : Int) := by
  unfold rangeC
  apply List.map_congr_left
  intro j _
  rw [Int.zero_add, Int.natCast_mul, Int.mul_comm]
def lwBody : DS := sIf (t2 dIs (eCall 2 M__law_word (aCons (eVar 0) (aCons (e2 dIx (eVar 1) (eVar 2)) (aNil)))) (eC .none)) (sRet (eC (.bool false))) (sNil)
theorem lw_loop {r : Ru} (ok : r.Ok) {l : List Nat} (h : Lt r.ws.length l) : ∀ (js : List Nat) (x : Option LV), (∀ j ∈ js, r.cut * j < l.length) →
    ((js.filterMap fun j => l[r.cut * j]?).all (isSomeW r) = true ∧ ∃ x', forL (gN 2) lwBody (js.map fun j => PyData.int ((r.cut * j : Nat) : Int)) [some (.fz (rD r)), some (.fz (sD l)), x] = .nx [some (.fz (rD r)), some (.fz (sD l)), x']) ∨
    ((js.filterMap fun j => l[r.cut * j]?).all (isSomeW r) = false ∧ forL (gN 2) lwBody (js.map fun j => PyData.int ((r.cut * j : Nat) : Int)) [some (.fz (rD r)), some (.fz (sD l)), x] = .rt (.bool false))
  | [], x, _ => .inl ⟨rfl, x, rfl⟩
  | j :: js, x, hj => by
    have hk := hj j (by simp)
    have hc : l[r.cut * j]? = some l[r.cut * j] := List.getElem?_eq_getElem hk
    have hx := ix_sD hc
    have hin := h _ (List.getElem_mem hk)
    generalize l[r.cut * j] = c at hc hx hin
    have hw := M_word_of_eq ok hin.1 hin.2
    rw [← lw_eq] at hw
    have ih := lw_loop ok h js (some (.fz (.int ((r.cut * j : Nat) : Int)))) (fun j h => hj j (by simp [h]))
    rw [List.filterMap_cons, hc]
    simp only [List.all_cons, List.map_cons]
    generalize r.cut * j = k at hx ih
    cases q : wordOf r c with
    | none =>
      rw [q] at hw
      refine .inr ⟨by simp [isSomeW, q], ?_⟩
      simp [forL, lwBody, -v_ix3, hx, hw, wD]
    | some w =>
      rw [q] at hw
      have e : ∀ ds, forL (gN 2) lwBody (PyData.int (k : Nat) :: ds) [some (.fz (rD r)), some (.fz (sD l)), x] = forL (gN 2) lwBody ds [some (.fz (rD r)), some (.fz (sD l)), some (.fz (.int (k : Nat)))] := by
        intro ds
        simp [forL, lwBody, -v_ix3, hx, hw, wD]
      have ei : isSomeW r c = true := by simp [isSomeW, q]
      rw [e, ei, Bool.true_and]
      exact ih
theorem M_law_whole_eq {r : Ru} (ok : r.Ok) {l : List Nat} (h : Lt r.ws.length l) (hl : l.length ≤ 100000) : M__law_whole [rD r, sD l] = .ok (.bool (whole r l)) := by
  have c1 := ok.c1
  have c3 := ok.c3
  have hm := v_modN (a := l.length) (b := r.cut) c1
  by_cases q : l.length % r.cut = 0
  · have hr := rng3_eq (len := l.length) c1 (by omega) (by omega)
    rw [rangeC_eq] at hr
    have lp := lw_loop ok h (List.range (cnt r.cut l.length)) none (fun j hj => cnt_lt c1 (List.mem_range.mp hj))
    have ew : whole r l = ((List.range (cnt r.cut l.length)).filterMap fun j => l[r.cut * j]?).all (isSomeW r) := by simp [whole, q, stepL, cnt]
    rw [← ew] at lp
    rw [q] at hm
    generalize (List.range (cnt r.cut l.length)).map (fun j => PyData.int ((r.cut * j : Nat) : Int)) = ds at hr lp
    have e : M__law_whole [rD r, sD l] = outD (Fl.seq (forL (gN 2) lwBody ds [some (.fz (rD r)), some (.fz (sD l)), none]) (sRet (eC (.bool true)))) := by
      simp [M__law_whole, f__law_whole, startE, -v_mod, hm, hr, lwBody]
    rw [e]
    rcases lp with ⟨e1, x', e2⟩ | ⟨e1, e2⟩
    · rw [e1, e2]; simp
    · rw [e1, e2]; simp
  · have ew : whole r l = false := by simp [whole, q]
    have q3 : 0 < l.length % r.cut := by omega
    rw [ew]
    generalize l.length % r.cut = m at hm q3
    simp [M__law_whole, f__law_whole, startE, -v_mod, hm, q3]
def liBody : DS := sAsg 2 (e2 dAdd (eVar 2) (eCall 2 M__law_word (aCons (eVar 0) (aCons (e2 dIx (eVar 1) (eVar 3)) (aNil)))))
theorem li_loop {r : Ru} (ok : r.Ok) {l : List Nat} (h : Lt r.ws.length l) : ∀ (js : List Nat) (acc : List Nat) (x : Option LV), (∀ j ∈ js, r.cut * j < l.length) → (∀ c ∈ js.filterMap fun j => l[r.cut * j]?, ∃ w, wordOf r c = some w) → acc.length + 4 * js.length ≤ 1000000 →
    ∃ x', forL (gN 3) liBody (js.map fun j => PyData.int ((r.cut * j : Nat) : Int)) [some (.fz (rD r)), some (.fz (sD l)), some (.fz (sD acc)), x] = .nx [some (.fz (rD r)), some (.fz (sD l)), some (.fz (sD (acc ++ (js.filterMap fun j => l[r.cut * j]?).flatMap fun c => (wordOf r c).getD []))), x']
  | [], acc, x, _, _, _ => ⟨x, by simp [forL]⟩
  | j :: js, acc, x, hj, ha, hl => by
    simp only [List.length_cons] at hl
    have hk := hj j (by simp)
    have hc : l[r.cut * j]? = some l[r.cut * j] := List.getElem?_eq_getElem hk
    have hx := ix_sD hc
    have hin := h _ (List.getElem_mem hk)
    generalize l[r.cut * j] = c at hc hx hin
    have hw := M_word_of_eq ok hin.1 hin.2
    rw [← lw_eq] at hw
    obtain ⟨w, q⟩ := ha c (by rw [List.filterMap_cons, hc]; simp)
    have hwl := (wordOf_ok ok q).1
    rw [q] at hw
    obtain ⟨x', ih⟩ := li_loop ok h js (acc ++ w) (some (.fz (.int ((r.cut * j : Nat) : Int)))) (fun j h => hj j (by simp [h])) (fun c hc' => ha c (by rw [List.filterMap_cons, hc]; exact List.mem_cons_of_mem _ hc')) (by simp; omega)
    refine ⟨x', ?_⟩
    rw [List.filterMap_cons, hc]
    simp only [List.flatMap_cons, List.map_cons, q, Option.getD_some]
    rw [← List.append_assoc, ← ih]
    generalize r.cut * j = k at hx
    have z : acc.length + w.length ≤ sizeLine := size1 (by omega)
    simp [forL, liBody, -v_ix3, hx, hw, wD, z]
theorem M_law_image_eq {r : Ru} (ok : r.Ok) {l : List Nat} (h : Lt r.ws.length l) (hl : l.length ≤ 100000) (hw : whole r l = true) : M__law_image [rD r, sD l] = .ok (sD (imageM r l)) := by
  have c1 := ok.c1
  have c3 := ok.c3
  have hr := rng3_eq (len := l.length) c1 (by omega) (by omega)
  rw [rangeC_eq] at hr
  have hcl : cnt r.cut l.length ≤ l.length := by
    unfold cnt
    rw [Nat.div_le_iff_le_mul_add_pred (by omega)]
    have : l.length ≤ r.cut * l.length := Nat.le_mul_of_pos_left _ (by omega)
    omega
  obtain ⟨x', lp⟩ := li_loop ok h (List.range (cnt r.cut l.length)) [] none (fun j hj => cnt_lt c1 (List.mem_range.mp hj)) (whole_all hw) (by simp; omega)
  rw [List.nil_append] at lp
  have ei : imageM r l = ((List.range (cnt r.cut l.length)).filterMap fun j => l[r.cut * j]?).flatMap fun c => (wordOf r c).getD [] := rfl
  rw [← ei] at lp
  generalize (List.range (cnt r.cut l.length)).map (fun j => PyData.int ((r.cut * j : Nat) : Int)) = ds at hr lp
  have e : M__law_image [rD r, sD l] = outD (Fl.seq (forL (gN 3) liBody ds [some (.fz (rD r)), some (.fz (sD l)), some (.fz (sD [])), none]) (sRet (eVar 2))) := by
    simp [M__law_image, f__law_image, startE, hr, liBody, S_nil]
  rw [e, lp]
  simp
theorem M_law_share_eq {r : Ru} (ok : r.Ok) {p : List Nat} (h : Lt r.ws.length p) (hl : p.length ≤ 10000) : M__law_share [rD r, sD p] = .ok (oD (shareM r p)) := by
  have hw := M_law_whole_eq ok h (by omega)
  unfold shareM
  by_cases q : p = []
  · rw [if_pos (.inl q)]
    subst q
    simp [M__law_share, f__law_share, startE, S_nil, oD]
  · have hp : 0 < p.length := List.length_pos_iff.mpr q
    cases q2 : whole r p with
    | false =>
      rw [if_pos (.inr rfl)]
      rw [q2] at hw
      simp [M__law_share, f__law_share, startE, S_nil, q, hw, oD]
    | true =>
      rw [if_neg (by rintro (z | z); exact q z; cases z)]
      rw [q2] at hw
      have ht := M_law_image_eq ok h (by omega) q2
      have il := imageM_len ok p
      generalize imageM r p = w at ht il
      have hd := v_divN (a := w.length) (b := p.length) hp (by omega)
      have hk : w.length / p.length ≤ w.length := Nat.div_le_self _ _
      have hkp : p.length * (w.length / p.length) ≤ w.length := Nat.mul_div_le _ _
      have hx := v_mulS p (k := w.length / p.length) (by omega) (by omega)
      have et : timesOf p w = if rp (w.length / p.length) p = w then some (w.length / p.length) else none := by
        unfold timesOf
        by_cases z : rp (w.length / p.length) p = w
        · have : w.length % p.length = 0 := by
            have := congrArg List.length z
            rw [rp_len] at this
            rw [← this]; simp
          rw [if_pos ⟨this, z⟩, if_pos z]
        · rw [if_neg fun y => z y.2, if_neg z]
      rw [et]
      generalize w.length / p.length = k at *
      by_cases z : rp k p = w
      · rw [if_pos z]
        simp [M__law_share, f__law_share, startE, S_nil, q, hw, ht, -v_div, -v_mul2, hd, hx, z, oD]
      · rw [if_neg z]
        simp [M__law_share, f__law_share, startE, S_nil, q, hw, ht, -v_div, -v_mul2, hd, hx, z, oD]
end DL
namespace DL
open PySem PySem.Spec L2
@[simp] theorem v_addI (i j : Int) : dAddI (.int i) (.int j) = some (.int (i + j)) := id rfl
/-- the share of the first n letters, if the row is so many times these -/
def cand (r : Ru) (row : List Nat) (n : Nat) : Option Nat := if (timesOf (row.take n) row).isSome then shareM r (row.take n) else none
def partL (r : Ru) (row : List Nat) : List Nat → Option (List Nat × Nat)
  | [] => none
  | n :: ns => match cand r row n with
    | some k => some (row.take n, k)
    | none => partL r row ns
def oneTo (n : Nat) : List Nat := (List.range n).map (· + 1)
def partM (r : Ru) (row : List Nat) : Option (List Nat × Nat) := partL r row (oneTo row.length)
theorem mem_oneTo {n k : Nat} : k ∈ oneTo n ↔ 1 ≤ k ∧ k ≤ n := by
  unfold oneTo
  rw [List.mem_map]
  constructor
  · rintro ⟨a, h, rfl⟩
    have := List.mem_range.mp h
    omega
  · rintro ⟨h1, h2⟩
    exact ⟨k - 1, List.mem_range.mpr (by omega), by omega⟩
theorem rangeD_one (n : Nat) : rangeD 1 n = (oneTo n).map fun k => PyData.int (k : Nat) := by
  unfold rangeD oneTo
  rw [List.map_map]
  apply List.map_congr_left
  intro k _
  simp only [Function.comp_apply]
  congr 1
  omega
def ptD : Option (List Nat × Nat) → PyData
  | none => .none
  | some (p, k) => .tuple [sD p, .int k]
def ptBody : DS := (sIf (t2 dIsNot (eCall 2 M_times_of (aCons (eCut (eVar 1) (oNone) (oSome (eVar 2))) (aCons (eVar 1) (aNil)))) (eC .none)) (sSeq (sAsg 3 (eCall 2 M_share (aCons (eVar 0) (aCons (eCut (eVar 1) (oNone) (oSome (eVar 2))) (aNil))))) (sIf (t2 dIsNot (eVar 3) (eC .none)) (sRet (eTup (aCons (eCut (eVar 1) (oNone) (oSome (eVar 2))) (aCons (eVar 3) (aNil))))) (sNil))) (sNil))
theorem pt_loop {r : Ru} (ok : r.Ok) {row : List Nat} (h : Lt r.ws.length row) (hl : row.length ≤ 1000) : ∀ (ns : List Nat) (x y : Option LV), (∀ n ∈ ns, 1 ≤ n ∧ n ≤ row.length) →
    (partL r row ns = none ∧ ∃ x' y', forL (gN 2) ptBody (ns.map fun k => PyData.int (k : Nat)) [some (.fz (rD r)), some (.fz (sD row)), x, y] = .nx [some (.fz (rD r)), some (.fz (sD row)), x', y']) ∨
    (∃ p, partL r row ns = some p ∧ forL (gN 2) ptBody (ns.map fun k => PyData.int (k : Nat)) [some (.fz (rD r)), some (.fz (sD row)), x, y] = .rt (ptD (some p)))
  | [], x, y, _ => .inl ⟨rfl, x, y, rfl⟩
  | n :: ns, x, y, hn => by
    obtain ⟨h1, h2⟩ := hn n (by simp)
    have z2 : 2 ≤ sizeLine := size1 (by omega)
    have hlen : (row.take n).length = n := by rw [List.length_take]; omega
    have ht := M_times_of_eq (p := row.take n) (w := row) (by omega) (by omega) (by omega)
    have hs := M_share_eq ok (h.take n) (by omega)
    have hc := cutS_to row n
    have ep : partL r row (n :: ns) = match cand r row n with
      | some k => some (row.take n, k)
      | none => partL r row ns := rfl
    rw [ep]
    unfold cand
    generalize timesOf (row.take n) row = t at ht
    generalize shareM r (row.take n) = s at hs
    generalize row.take n = p at ht hs hc hlen
    cases t with
    | none =>
      rcases pt_loop ok h hl ns (some (.fz (.int n))) y (fun n h => hn n (by simp [h])) with ⟨e1, x', y', e2⟩ | ⟨q, e1, e2⟩
      · refine .inl ⟨by simpa using e1, x', y', ?_⟩
        rw [← e2]
        simp [forL, ptBody, hc, ht, oD]
      · refine .inr ⟨q, by simpa using e1, ?_⟩
        rw [← e2]
        simp [forL, ptBody, hc, ht, oD]
    | some k0 =>
      cases s with
      | none =>
        rcases pt_loop ok h hl ns (some (.fz (.int n))) (some (.fz .none)) (fun n h => hn n (by simp [h])) with ⟨e1, x', y', e2⟩ | ⟨q, e1, e2⟩
        · refine .inl ⟨by simpa using e1, x', y', ?_⟩
          rw [← e2]
          simp [forL, ptBody, hc, ht, hs, oD]
        · refine .inr ⟨q, by simpa using e1, ?_⟩
          rw [← e2]
          simp [forL, ptBody, hc, ht, hs, oD]
      | some k =>
        refine .inr ⟨(p, k), by simp, ?_⟩
        simp [forL, ptBody, hc, ht, hs, oD, z2, ptD]
theorem M_part_of_eq {r : Ru} (ok : r.Ok) {row : List Nat} (h : Lt r.ws.length row) (hl : row.length ≤ 1000) : M_part_of [rD r, sD row] = .ok (ptD (partM r row)) := by
  have hr1 : inR 1 = true := by decide
  have hr2 : inR ((row.length : Int) + 1) = true := inR_of (by omega) (by omega)
  have et : ((row.length : Int) + 1 - 1).toNat = row.length := by omega
  have lp := pt_loop ok h hl (oneTo row.length) none none (fun n hn => mem_oneTo.mp hn)
  rw [← rangeD_one] at lp
  have e : M_part_of [rD r, sD row] = outD (Fl.seq (forL (gN 2) ptBody (rangeD 1 row.length) [some (.fz (rD r)), some (.fz (sD row)), none, none]) (sRet (eC .none))) := by
    simp [M_part_of, f_part_of, startE, hr1, hr2, et, ptBody]
  rw [e]
  unfold partM
  rcases lp with ⟨e1, x', y', e2⟩ | ⟨q, e1, e2⟩
  · rw [e1, e2]; simp [ptD]
  · rw [e1, e2]; simp
/-! ### what becomes of a row -/
inductive Fate where
  | ends (n : Nat) (l : List Nat)
  | round (a p : Nat)
  | grows (n : Nat) (p : List Nat) (k : Nat)
  | far (n m : Nat)
def fD : Fate → PyData
  | .ends n l => .tuple [.str "ends", .int n, sD l]
  | .round a p => .tuple [.str "round", .int a, .int p]
  | .grows n p k => .tuple [.str "grows", .int n, sD p, .int k]
  | .far n m => .tuple [.str "far", .int n, .int m]
def fateL (r : Ru) : Nat → List (List Nat) → List Nat → Fate
  | 0, rows, row => .far rows.length row.length
  | f + 1, rows, row => if rows.length ≤ 200 ∧ row.length ≤ 120 then
      if ended r row then .ends rows.length row
      else if row ∈ rows then .round (rows.idxOf row) (rows.length - rows.idxOf row)
      else match partM r row with
        | some (p, k) => if 1 < k then .grows rows.length p k else fateL r f (rows ++ [row]) (next r row)
        | none => fateL r f (rows ++ [row]) (next r row)
    else .far rows.length row.length
def kvL : Nat → List (List Nat) → List (Key × PyData)
  | _, [] => []
  | n, l :: ls => (.inr (S l), .int (n : Nat)) :: kvL (n + 1) ls
theorem kvL_len : ∀ (n : Nat) (ls : List (List Nat)), (kvL n ls).length = ls.length
  | _, [] => rfl
  | n, l :: ls => by simp [kvL, kvL_len (n + 1) ls]
theorem kvL_val (a : List Nat) : ∀ (n : Nat) (ls : List (List Nat)), valD (kvL n ls) (.inr (S a)) = if a ∈ ls then some (.int ((n + ls.idxOf a : Nat) : Int)) else none
  | _, [] => rfl
  | n, l :: ls => by
    have ih := kvL_val a (n + 1) ls
    unfold valD at ih ⊢
    rw [kvL, List.find?_cons, List.idxOf_cons]
    by_cases h : l = a
    · subst h; simp
    · have hk : decide ((Sum.inr (S l) : Key) = Sum.inr (S a)) = false := by
        rw [decide_eq_false_iff_not]
        intro z
        exact h (S_inj.mp (Sum.inr.inj z))
      have h' : ¬ a = l := fun e => h e.symm
      have h3 : (l == a) = false := by simpa using h
      simp only [hk, ih, h3, List.mem_cons, h', false_or, cond_false]
      split
      · rw [show n + 1 + List.idxOf a ls = n + (List.idxOf a ls + 1) by omega]
      · rfl
theorem kvL_snoc (a : List Nat) : ∀ (n : Nat) (ls : List (List Nat)), kvL n (ls ++ [a]) = kvL n ls ++ [(.inr (S a), .int ((n + ls.length : Nat) : Int))]
  | n, [] => rfl
  | n, l :: ls => by
    rw [List.cons_append, kvL, kvL, kvL_snoc a (n + 1) ls, List.cons_append, List.length_cons, show n + 1 + ls.length = n + (ls.length + 1) by omega]
theorem any_val {kvs : List (Key × PyData)} {k : Key} (h : valD kvs k = none) : (kvs.any fun kv => decide (kv.1 = k)) = false := by
  unfold valD at h
  rw [Option.map_eq_none_iff, List.find?_eq_none] at h
  rw [List.any_eq_false]
  exact h
theorem kvL_put {a : List Nat} {ls : List (List Nat)} (h : a ∉ ls) : putD (kvL 0 ls) (.inr (S a)) (.int (ls.length : Nat)) = kvL 0 (ls ++ [a]) := by
  have hv := kvL_val a 0 ls
  rw [if_neg h] at hv
  unfold putD
  rw [any_val hv, kvL_snoc]
  simp
end DL
namespace DL
open PySem PySem.Spec L2
section
variable {ρ : En} {fk fe : DEx}
@[simp] theorem r_owndAt (i : Nat) : owndAt ρ i = match ρ[i]? with | some (some (.ownd kvs)) => .ok kvs | _ => .bad := id rfl
@[simp] theorem r_keyS (z : Str) : keyD (.str z) = some (.inr z) := id rfl
@[simp] theorem r_sNewK (i : Nat) : sNewK i ρ = .nx (ρ.set i (some (.ownd []))) := id rfl
def getK (kvs : List (Key × PyData)) (k : PyData) : Rs PyData := match keyD k with
  | some k => .of (valD kvs k)
  | none => .bad
def hasK (kvs : List (Key × PyData)) (k : PyData) : Rs Bool := match keyD k with
  | some k => .ok (valD kvs k).isSome
  | none => .bad
@[simp] theorem r_eGetK (i : Nat) : eGetK i fk ρ = (owndAt ρ i).bind fun kvs => (fk ρ).bind fun k => getK kvs k := id rfl
@[simp] theorem r_tInK (i : Nat) : tInK i fk ρ = (fk ρ).bind fun k => (owndAt ρ i).bind fun kvs => hasK kvs k := id rfl
def putF (i : Nat) (ρ : En) (kvs : List (Key × PyData)) (k d : PyData) : Fl := match keyD k with
  | some k => if kvs.length < sizeLine then .nx (ρ.set i (some (.ownd (putD kvs k d)))) else .bad
  | none => .bad
@[simp] theorem r_sPutK (i : Nat) : sPutK i fk fe ρ = sBind (fe ρ) ρ fun d => sBind (owndAt ρ i) ρ fun kvs => sBind (fk ρ) ρ fun k => putF i ρ kvs k d := id rfl
theorem getK_rows (a : List Nat) (ls : List (List Nat)) (h : a ∈ ls) : getK (kvL 0 ls) (sD a) = .ok (.int (ls.idxOf a : Nat)) := by
  show Rs.of (valD (kvL 0 ls) (.inr (S a))) = _
  rw [kvL_val, if_pos h, Nat.zero_add]; rfl
theorem hasK_rows (a : List Nat) (ls : List (List Nat)) : hasK (kvL 0 ls) (sD a) = .ok (decide (a ∈ ls)) := by
  show Rs.ok (valD (kvL 0 ls) (.inr (S a))).isSome = _
  rw [kvL_val]
  by_cases h : a ∈ ls <;> simp [h]
theorem putF_rows (i : Nat) (ρ : En) {a : List Nat} {ls : List (List Nat)} (h : a ∉ ls) (hl : ls.length ≤ 1000) : putF i ρ (kvL 0 ls) (sD a) (.int (ls.length : Nat)) = .nx (ρ.set i (some (.ownd (kvL 0 (ls ++ [a]))))) := by
  show (if (kvL 0 ls).length < sizeLine then Fl.nx (ρ.set i (some (.ownd (putD (kvL 0 ls) (.inr (S a)) (.int (ls.length : Nat)))))) else .bad) = _
  rw [kvL_len, if_pos (by rw [sizeLine_eq]; omega), kvL_put h]
end
def foTest : En → Rs Bool := tAnd (t2 dLe (eVar 3) (eC (.int 200))) (t2 dLe (eB dLen (aCons (eVar 1) (aNil))) (eC (.int 120)))
def foBody : DS := sSeq (sIf (tTru (eCall 2 M_has_ended (aCons (eVar 0) (aCons (eVar 1) (aNil))))) (sRet (eTup (aCons (eC (.str "ends")) (aCons (eVar 3) (aCons (eVar 1) (aNil)))))) (sNil)) (sSeq (sIf (tInK 2 (eVar 1)) (sRet (eTup (aCons (eC (.str "round")) (aCons (eGetK 2 (eVar 1)) (aCons (e2 dSub (eVar 3) (eGetK 2 (eVar 1))) (aNil)))))) (sNil)) (sSeq (sAsg 4 (eCall 2 M_part_of (aCons (eVar 0) (aCons (eVar 1) (aNil))))) (sSeq (sIf (tAnd (t2 dIsNot (eVar 4) (eC .none)) (t2 dGt (e2 dIx (eVar 4) (eC (.int 1))) (eC (.int 1)))) (sRet (eTup (aCons (eC (.str "grows")) (aCons (eVar 3) (aCons (e2 dIx (eVar 4) (eC (.int 0))) (aCons (e2 dIx (eVar 4) (eC (.int 1))) (aNil))))))) (sNil)) (sSeq (sPutK 2 (eVar 1) (eVar 3)) (sSeq (sAsg 1 (eCall 2 M_next_of (aCons (eVar 0) (aCons (eVar 1) (aNil))))) (sAug 3 dAddI (eC (.int 1))))))))
def foEnd : DS := sRet (eTup (aCons (eC (.str "far")) (aCons (eVar 3) (aCons (eB dLen (aCons (eVar 1) (aNil))) (aNil)))))
theorem sub_idx {a b : Nat} (h : b ≤ a) : ((a : Int) - b) = ((a - b : Nat) : Int) := by omega
theorem fo_loop {r : Ru} (ok : r.Ok) : ∀ (f : Nat) (rows : List (List Nat)) (row : List Nat) (x : Option LV), Lt r.ws.length row → rows.length ≤ 201 → 201 < rows.length + f → row.length ≤ 10000 →
    Fl.seq (whileN foTest foBody f [some (.fz (rD r)), some (.fz (sD row)), some (.ownd (kvL 0 rows)), some (.fz (.int rows.length)), x]) foEnd = .rt (fD (fateL r f rows row))
  | 0, rows, row, x, _, h1, h2, _ => by omega
  | f + 1, rows, row, x, h, h1, h2, hl => by
    have z3 : 3 ≤ sizeLine := size1 (by omega)
    have z4 : 4 ≤ sizeLine := size1 (by omega)
    have ef : fateL r (f + 1) rows row = if rows.length ≤ 200 ∧ row.length ≤ 120 then
      if ended r row then .ends rows.length row
      else if row ∈ rows then .round (rows.idxOf row) (rows.length - rows.idxOf row)
      else match partM r row with
        | some (p, k) => if 1 < k then .grows rows.length p k else fateL r f (rows ++ [row]) (next r row)
        | none => fateL r f (rows ++ [row]) (next r row)
      else .far rows.length row.length := rfl
    rw [ef]
    by_cases q : rows.length ≤ 200 ∧ row.length ≤ 120
    · obtain ⟨q1, q2⟩ := q
      rw [if_pos ⟨q1, q2⟩]
      have q1' : (rows.length : Int) ≤ 200 := by omega
      have q2' : (row.length : Int) ≤ 120 := by omega
      have he := M_has_ended_eq ok h
      cases qe : ended r row with
      | true =>
        rw [qe] at he
        simp [whileN, foTest, foBody, q1', q2', he, z3, fD]
      | false =>
        rw [qe] at he
        simp only [Bool.false_eq_true, if_false]
        have hk := hasK_rows row rows
        by_cases qm : row ∈ rows
        · have hg := getK_rows row rows qm
          have hi : rows.idxOf row < rows.length := List.idxOf_lt_length_of_mem qm
          have hsb := sub_idx (Nat.le_of_lt hi)
          rw [if_pos qm]
          rw [decide_eq_true qm] at hk
          simp [whileN, foTest, foBody, q1', q2', he, z3, hk, hg, hsb, fD]
        · rw [if_neg qm]
          rw [decide_eq_false qm] at hk
          have hp := M_part_of_eq ok h (by omega)
          have hn := M_next_of_eq ok h qe (by omega)
          have ln := next_len ok row
          have ih := fun x => fo_loop ok f (rows ++ [row]) (next r row) x (h.next ok) (by simp; omega) (by simp; omega) (by omega)
          have hpt := fun ρ => putF_rows 2 ρ qm (by omega)
          have el : (((rows ++ [row]).length : Nat) : Int) = (rows.length : Int) + 1 := by simp
          rw [el] at ih
          generalize kvL 0 (rows ++ [row]) = kv2 at ih hpt
          generalize kvL 0 rows = kv at hk hpt
          cases qp : partM r row with
          | none =>
            rw [qp] at hp
            dsimp only
            rw [← ih (some (.fz .none))]
            simp [whileN, foTest, foBody, q1', q2', he, hk, hp, hpt, hn, ptD]
          | some pk =>
            obtain ⟨p, k⟩ := pk
            rw [qp] at hp
            dsimp only
            by_cases q3 : 1 < k
            · rw [if_pos q3]
              have q3' : (1 : Int) < k := by omega
              simp [whileN, foTest, foBody, q1', q2', he, hk, hp, ptD, q3', z4, fD]
            · rw [if_neg q3, ← ih (some (.fz (ptD (some (p, k)))))]
              have q3' : ¬ (1 : Int) < k := by omega
              simp [whileN, foTest, foBody, q1', q2', he, hk, hp, hpt, hn, ptD, q3']
    · rw [if_neg q]
      by_cases q1 : rows.length ≤ 200
      · have q2 : ¬ row.length ≤ 120 := fun z => q ⟨q1, z⟩
        have q1' : (rows.length : Int) ≤ 200 := by omega
        have q2' : ¬ (row.length : Int) ≤ 120 := by omega
        simp [whileN, foTest, q1', q2', foEnd, z3, fD]
      · have q1' : ¬ (rows.length : Int) ≤ 200 := by omega
        simp [whileN, foTest, q1', foEnd, z3, fD]
def fateM (r : Ru) (row : List Nat) : Fate := fateL r 1000 [] row
theorem M_fate_of_eq {r : Ru} (ok : r.Ok) {row : List Nat} (h : Lt r.ws.length row) (hl : row.length ≤ 10000) : M_fate_of [rD r, sD row] = .ok (fD (fateM r row)) := by
  have lp := fo_loop ok 1000 [] row none h (by simp) (by simp) hl
  have e : M_fate_of [rD r, sD row] = outD (Fl.seq (whileN foTest foBody 1000 [some (.fz (rD r)), some (.fz (sD row)), some (.ownd (kvL 0 [])), some (.fz (.int ([] : List (List Nat)).length)), none]) foEnd) := by
    simp [M_fate_of, f_fate_of, startE, foTest, foBody, foEnd, kvL]
  rw [e, lp]
  rfl
def lfBody : DS := (sSeq (sAsg 4 (eCut (eVar 1) (oNone) (oSome (eVar 3)))) (sIf (tAnd (t2 dEq (e2 dMul (eVar 4) (e2 dDiv (eB dLen (aCons (eVar 1) (aNil))) (eVar 3))) (eVar 1)) (t2 dIsNot (eCall 2 M__law_share (aCons (eVar 0) (aCons (eVar 4) (aNil)))) (eC .none))) (sSeq (sIf (t2 dGt (eCall 2 M__law_share (aCons (eVar 0) (aCons (eVar 4) (aNil)))) (eC (.int 1))) (sRet (eTup (aCons (eC (.str "grows")) (aCons (eB dLen (aCons (eVarB 2) (aNil))) (aCons (eVar 4) (aCons (eCall 2 M__law_share (aCons (eVar 0) (aCons (eVar 4) (aNil)))) (aNil))))))) (sNil)) (sBreak)) (sNil)))
theorem lf_for {r : Ru} (ok : r.Ok) {row : List Nat} (h : Lt r.ws.length row) (hl : row.length ≤ 1000) (rows : List (List Nat)) : ∀ (ns : List Nat) (x y : Option LV), (∀ n ∈ ns, 1 ≤ n ∧ n ≤ row.length) →
    ((∀ p k, partL r row ns = some (p, k) → ¬ 1 < k) ∧ ∃ x' y', forL (gN 3) lfBody (ns.map fun k => PyData.int (k : Nat)) [some (.fz (rD r)), some (.fz (sD row)), some (.own (rows.map sD)), x, y] = .nx [some (.fz (rD r)), some (.fz (sD row)), some (.own (rows.map sD)), x', y']) ∨
    (∃ p k, partL r row ns = some (p, k) ∧ 1 < k ∧ forL (gN 3) lfBody (ns.map fun k => PyData.int (k : Nat)) [some (.fz (rD r)), some (.fz (sD row)), some (.own (rows.map sD)), x, y] = .rt (fD (.grows rows.length p k)))
  | [], x, y, _ => .inl ⟨fun p k z => (nomatch z), x, y, rfl⟩
  | n :: ns, x, y, hn => by
    obtain ⟨h1, h2⟩ := hn n (by simp)
    have z4 : 4 ≤ sizeLine := size1 (by omega)
    have hlen : (row.take n).length = n := by rw [List.length_take]; omega
    have hs := M_law_share_eq ok (h.take n) (by omega)
    have hc := cutS_to row n
    have hd := v_divN (a := row.length) (b := n) (by omega) (by omega)
    have hk : row.length / n ≤ row.length := Nat.div_le_self _ _
    have hkp : n * (row.length / n) ≤ row.length := Nat.mul_div_le _ _
    have hx := v_mulS (row.take n) (k := row.length / n) (by rw [hlen]; omega) (by omega)
    have et : (timesOf (row.take n) row).isSome = decide (rp (row.length / n) (row.take n) = row) := by
      unfold timesOf
      rw [hlen]
      by_cases z : rp (row.length / n) (row.take n) = row
      · have : row.length % n = 0 := by
          have := congrArg List.length z
          rw [rp_len, hlen] at this
          rw [← this]; simp
        rw [if_pos ⟨this, z⟩]; simp [z]
      · rw [if_neg fun y => z y.2]; simp [z]
    have ep : partL r row (n :: ns) = match (if (timesOf (row.take n) row).isSome then shareM r (row.take n) else none) with
      | some k => some (row.take n, k)
      | none => partL r row ns := rfl
    rw [ep, et]
    generalize row.length / n = m at hd hx
    generalize shareM r (row.take n) = s at hs
    generalize row.take n = p at hs hc hx
    have ih := lf_for ok h hl rows ns (some (.fz (.int n))) (some (.fz (sD p))) (fun n h => hn n (by simp [h]))
    by_cases z : rp m p = row
    · rw [z] at hx
      cases s with
      | none =>
        have e : forL (gN 3) lfBody ((n :: ns).map fun k => PyData.int (k : Nat)) [some (.fz (rD r)), some (.fz (sD row)), some (.own (rows.map sD)), x, y] = forL (gN 3) lfBody (ns.map fun k => PyData.int (k : Nat)) [some (.fz (rD r)), some (.fz (sD row)), some (.own (rows.map sD)), some (.fz (.int n)), some (.fz (sD p))] := by
          simp [forL, lfBody, hc, -v_div, -v_mul2, hd, hx, hs, oD]
        rw [e]
        simpa [z] using ih
      | some k =>
        by_cases q : 1 < k
        · refine .inr ⟨p, k, by simp [z], q, ?_⟩
          have q' : (1 : Int) < k := by omega
          simp [forL, lfBody, hc, -v_div, -v_mul2, hd, hx, hs, oD, q', z4, fD]
        · refine .inl ⟨fun p' k' e => ?_, some (.fz (.int n)), some (.fz (sD p)), ?_⟩
          · simp [z] at e
            rw [← e.2]; exact q
          · have q' : ¬ (1 : Int) < k := by omega
            simp [forL, lfBody, hc, -v_div, -v_mul2, hd, hx, hs, oD, q']
    · have e : forL (gN 3) lfBody ((n :: ns).map fun k => PyData.int (k : Nat)) [some (.fz (rD r)), some (.fz (sD row)), some (.own (rows.map sD)), x, y] = forL (gN 3) lfBody (ns.map fun k => PyData.int (k : Nat)) [some (.fz (rD r)), some (.fz (sD row)), some (.own (rows.map sD)), some (.fz (.int n)), some (.fz (sD p))] := by
        simp [forL, lfBody, hc, -v_div, -v_mul2, hd, hx, z]
      rw [e]
      simpa [z] using ih
def lfTest : En → Rs Bool := (tAnd (t2 dLe (eB dLen (aCons (eVarB 2) (aNil))) (eC (.int 200))) (t2 dLe (eB dLen (aCons (eVar 1) (aNil))) (eC (.int 120))))
def lfFor : DS := (sFor (iR2 (aCons (eC (.int 1)) (aCons (e2 dAdd (eB dLen (aCons (eVar 1) (aNil))) (eC (.int 1))) (aNil)))) (gN 3) lfBody)
def lfWhile : DS := (sSeq (sIf (tTru (eCall 2 M__law_ended (aCons (eVar 0) (aCons (eVar 1) (aNil))))) (sRet (eTup (aCons (eC (.str "ends")) (aCons (eB dLen (aCons (eVarB 2) (aNil))) (aCons (eVar 1) (aNil)))))) (sNil)) (sSeq (sIf (t2 dIn (eVar 1) (eVarB 2)) (sRet (eTup (aCons (eC (.str "round")) (aCons (eM "list" dLIdx (eVarB 2) (aCons (eVar 1) (aNil))) (aCons (e2 dSub (eB dLen (aCons (eVarB 2) (aNil))) (eM "list" dLIdx (eVarB 2) (aCons (eVar 1) (aNil)))) (aNil)))))) (sNil)) (sSeq lfFor (sSeq (sApp 2 (eVar 1)) (sAsg 1 (e2 dIx (eCall 3 M__law_course (aCons (eVar 0) (aCons (eVar 1) (aCons (eC (.int 1)) (aNil))))) (e1 dNeg (eC (.int 1)))))))))
def lfEnd : DS := (sRet (eTup (aCons (eC (.str "far")) (aCons (eB dLen (aCons (eVarB 2) (aNil))) (aCons (eB dLen (aCons (eVar 1) (aNil))) (aNil))))))
theorem lfFor_eq {r : Ru} {row : List Nat} (hl : row.length ≤ 1000) (rows : List (List Nat)) (x y : Option LV) : lfFor [some (.fz (rD r)), some (.fz (sD row)), some (.own (rows.map sD)), x, y] = forL (gN 3) lfBody ((oneTo row.length).map fun k => PyData.int (k : Nat)) [some (.fz (rD r)), some (.fz (sD row)), some (.own (rows.map sD)), x, y] := by
  have hr1 : inR 1 = true := by decide
  have hr2 : inR ((row.length : Int) + 1) = true := inR_of (by omega) (by omega)
  have et : ((row.length : Int) + 1 - 1).toNat = row.length := by omega
  rw [← rangeD_one]
  simp [lfFor, hr1, hr2, et]
theorem lf_loop {r : Ru} (ok : r.Ok) : ∀ (f : Nat) (rows : List (List Nat)) (row : List Nat) (x y : Option LV), Lt r.ws.length row → rows.length ≤ 201 → 201 < rows.length + f → row.length ≤ 10000 →
    Fl.seq (whileN lfTest lfWhile f [some (.fz (rD r)), some (.fz (sD row)), some (.own (rows.map sD)), x, y]) lfEnd = .rt (fD (fateL r f rows row))
  | 0, rows, row, x, y, _, h1, h2, _ => by omega
  | f + 1, rows, row, x, y, h, h1, h2, hl => by
    have z3 : 3 ≤ sizeLine := size1 (by omega)
    have ef : fateL r (f + 1) rows row = if rows.length ≤ 200 ∧ row.length ≤ 120 then
      if ended r row then .ends rows.length row
      else if row ∈ rows then .round (rows.idxOf row) (rows.length - rows.idxOf row)
      else match partM r row with
        | some (p, k) => if 1 < k then .grows rows.length p k else fateL r f (rows ++ [row]) (next r row)
        | none => fateL r f (rows ++ [row]) (next r row)
      else .far rows.length row.length := rfl
    rw [ef]
    by_cases q : rows.length ≤ 200 ∧ row.length ≤ 120
    · obtain ⟨q1, q2⟩ := q
      rw [if_pos ⟨q1, q2⟩]
      have q1' : (rows.length : Int) ≤ 200 := by omega
      have q2' : (row.length : Int) ≤ 120 := by omega
      have he := M_has_ended_eq ok h
      rw [← le_eq] at he
      cases qe : ended r row with
      | true =>
        rw [qe] at he
        simp [whileN, lfTest, lfWhile, q1', q2', he, z3, fD]
      | false =>
        rw [qe] at he
        simp only [Bool.false_eq_true, if_false]
        have hk := v_inL row rows
        by_cases qm : row ∈ rows
        · have hg := v_lidx row rows qm
          have hi : rows.idxOf row < rows.length := List.idxOf_lt_length_of_mem qm
          have hsb := sub_idx (Nat.le_of_lt hi)
          rw [if_pos qm]
          rw [decide_eq_true qm] at hk
          simp [whileN, lfTest, lfWhile, q1', q2', he, z3, hk, hg, hsb, fD]
        · rw [if_neg qm]
          rw [decide_eq_false qm] at hk
          have ln := next_len ok row
          have lc := M_law_course ok h (n := 1) (by omega)
          have lc' : M__law_course [rD r, sD row, .int 1] = .ok (.list [sD row, sD (next r row)]) := by
            have e1 : courseM r row 1 = [row, next r row] := by simp [courseM, qe]
            rw [e1] at lc
            exact lc
          have la : atI [sD row, sD (next r row)] (-1) = some (sD (next r row)) := atI_last [sD row] _
          have ih := fun x y => lf_loop ok f (rows ++ [row]) (next r row) x y (h.next ok) (by simp; omega) (by simp; omega) (by omega)
          have hz : rows.length < sizeLine := by rw [sizeLine_eq]; omega
          have hfe := lfFor_eq (r := r) (by omega : row.length ≤ 1000) rows x y
          rcases lf_for ok h (by omega) rows (oneTo row.length) x y (fun n hn => mem_oneTo.mp hn) with ⟨hno, x', y', e2⟩ | ⟨p, k, e1, hk1, e2⟩
          · rw [e2] at hfe
            have e3 : (match partM r row with
              | some (p, k) => if 1 < k then .grows rows.length p k else fateL r f (rows ++ [row]) (next r row)
              | none => fateL r f (rows ++ [row]) (next r row)) = fateL r f (rows ++ [row]) (next r row) := by
              unfold partM
              cases qp : partL r row (oneTo row.length) with
              | none => rfl
              | some pk =>
                obtain ⟨p, k⟩ := pk
                dsimp only
                rw [if_neg (hno p k qp)]
            rw [e3, ← ih x' y']
            simp [whileN, lfTest, lfWhile, q1', q2', he, hk, hfe, hz, lc', la]
          · rw [e2] at hfe
            have e3 : partM r row = some (p, k) := e1
            rw [e3]
            dsimp only
            rw [if_pos hk1]
            simp [whileN, lfTest, lfWhile, q1', q2', he, hk, hfe]
    · rw [if_neg q]
      by_cases q1 : rows.length ≤ 200
      · have q2 : ¬ row.length ≤ 120 := fun z => q ⟨q1, z⟩
        have q1' : (rows.length : Int) ≤ 200 := by omega
        have q2' : ¬ (row.length : Int) ≤ 120 := by omega
        simp [whileN, lfTest, q1', q2', lfEnd, z3, fD]
      · have q1' : ¬ (rows.length : Int) ≤ 200 := by omega
        simp [whileN, lfTest, q1', lfEnd, z3, fD]
theorem M_law_fate_eq {r : Ru} (ok : r.Ok) {row : List Nat} (h : Lt r.ws.length row) (hl : row.length ≤ 10000) : M__law_fate [rD r, sD row] = .ok (fD (fateM r row)) := by
  have lp := lf_loop ok 1000 [] row none none h (by simp) (by simp) hl
  have e : M__law_fate [rD r, sD row] = outD (Fl.seq (whileN lfTest lfWhile 1000 [some (.fz (rD r)), some (.fz (sD row)), some (.own (([] : List (List Nat)).map sD)), none, none]) lfEnd) := by
    have hz : (0 : Nat) ≤ sizeLine := Nat.zero_le _
    simp [M__law_fate, f__law_fate, startE, lfTest, lfWhile, lfFor, lfBody, lfEnd]
  rw [e, lp]
  rfl
end DL
namespace DL
open PySem PySem.Spec L2
theorem iter_snoc (r : Ru) : ∀ (n : Nat) (l : List Nat), iter r l (n + 1) = (iter r l n).bind fun x => if ended r x then none else some (next r x)
  | 0, l => rfl
  | n + 1, l => by
    have e : iter r l (n + 1 + 1) = if ended r l then none else iter r (next r l) (n + 1) := rfl
    have e2 : iter r l (n + 1) = if ended r l then none else iter r (next r l) n := rfl
    rw [e, e2]
    split
    · rfl
    · exact iter_snoc r n (next r l)
theorem iter_add (r : Ru) : ∀ (a b : Nat) (l x : List Nat), iter r l a = some x → iter r l (a + b) = iter r x b
  | 0, b, l, x, h => by cases h; rw [Nat.zero_add]
  | a + 1, b, l, x, h => by
    have e2 : iter r l (a + 1) = if ended r l then none else iter r (next r l) a := rfl
    rw [e2] at h
    have e3 : iter r l (a + 1 + b) = if ended r l then none else iter r (next r l) (a + b) := by rw [show a + 1 + b = (a + b) + 1 by omega]; rfl
    rw [e3]
    split at h
    · cases h
    · rename_i q
      rw [if_neg q]
      exact iter_add r a b _ _ h
def Trace (r : Ru) (row0 : List Nat) (rows : List (List Nat)) (row : List Nat) : Prop := ∀ i, i ≤ rows.length → iter r row0 i = (rows ++ [row])[i]?
theorem Trace.last {r : Ru} {row0 row : List Nat} {rows : List (List Nat)} (t : Trace r row0 rows row) : iter r row0 rows.length = some row := by
  rw [t _ (Nat.le_refl _)]
  simp
theorem Trace.step {r : Ru} {row0 row : List Nat} {rows : List (List Nat)} (t : Trace r row0 rows row) (q : ended r row = false) : Trace r row0 (rows ++ [row]) (next r row) := by
  intro i hi
  rw [List.length_append, List.length_singleton] at hi
  by_cases h : i ≤ rows.length
  · rw [t i h]; exact (List.getElem?_append_left (by rw [List.length_append, List.length_singleton]; omega)).symm
  · have : i = rows.length + 1 := by omega
    subst this
    rw [iter_snoc, t.last, Option.bind_some, q]
    simp
def FateOk (r : Ru) (row0 : List Nat) : Fate → Prop
  | .ends n l => n ≤ 200 ∧ iter r row0 n = some l ∧ ended r l = true
  | .round a p => 1 ≤ p ∧ a + p ≤ 200 ∧ ∃ x, iter r row0 a = some x ∧ iter r row0 (a + p) = some x
  | .grows n p k => n ≤ 200 ∧ ∃ x, iter r row0 n = some x ∧ ended r x = false ∧ x.length ≤ 120 ∧ partM r x = some (p, k) ∧ 1 < k
  | .far _ _ => True
theorem fate_spec {r : Ru} {row0 : List Nat} : ∀ (f : Nat) (rows : List (List Nat)) (row : List Nat), Trace r row0 rows row → FateOk r row0 (fateL r f rows row)
  | 0, rows, row, _ => trivial
  | f + 1, rows, row, t => by
    have ef : fateL r (f + 1) rows row = if rows.length ≤ 200 ∧ row.length ≤ 120 then
      if ended r row then .ends rows.length row
      else if row ∈ rows then .round (rows.idxOf row) (rows.length - rows.idxOf row)
      else match partM r row with
        | some (p, k) => if 1 < k then .grows rows.length p k else fateL r f (rows ++ [row]) (next r row)
        | none => fateL r f (rows ++ [row]) (next r row)
      else .far rows.length row.length := rfl
    rw [ef]
    by_cases q : rows.length ≤ 200 ∧ row.length ≤ 120
    · rw [if_pos q]
      cases qe : ended r row with
      | true => exact ⟨q.1, t.last, qe⟩
      | false =>
        simp only [Bool.false_eq_true, if_false]
        by_cases qm : row ∈ rows
        · rw [if_pos qm]
          have hi : rows.idxOf row < rows.length := List.idxOf_lt_length_of_mem qm
          refine ⟨by omega, by omega, row, ?_, ?_⟩
          · rw [t _ (Nat.le_of_lt hi), List.getElem?_append_left hi, List.getElem?_eq_getElem hi]
            exact congrArg some (List.getElem_idxOf hi)
          · rw [Nat.add_sub_cancel' (Nat.le_of_lt hi)]; exact t.last
        · rw [if_neg qm]
          have ih := fate_spec f (rows ++ [row]) (next r row) (t.step qe)
          cases qp : partM r row with
          | none => exact ih
          | some pk =>
            obtain ⟨p, k⟩ := pk
            dsimp only
            split
            · rename_i hk
              exact ⟨q.1, row, t.last, qe, q.2, qp, hk⟩
            · exact ih
    · rw [if_neg q]; exact trivial
theorem fateM_ok (r : Ru) (row : List Nat) : FateOk r row (fateM r row) := fate_spec 1000 [] row fun i hi => by
  have : i = 0 := by simpa using hi
  subst this; rfl
theorem fate_shift {r : Ru} {x l : List Nat} {n : Nat} : ∀ (f : Nat) (rows : List (List Nat)) (row : List Nat), fateL r f (x :: rows) row = .ends n l → ∃ m, n = m + 1 ∧ fateL r (f + 1) rows row = .ends m l
  | 0, rows, row, h => by cases h
  | f + 1, rows, row, h => by
    have ef : ∀ (f : Nat) (rows : List (List Nat)), fateL r (f + 1) rows row = if rows.length ≤ 200 ∧ row.length ≤ 120 then
      if ended r row then .ends rows.length row
      else if row ∈ rows then .round (rows.idxOf row) (rows.length - rows.idxOf row)
      else match partM r row with
        | some (p, k) => if 1 < k then .grows rows.length p k else fateL r f (rows ++ [row]) (next r row)
        | none => fateL r f (rows ++ [row]) (next r row)
      else .far rows.length row.length := fun _ _ => rfl
    rw [ef] at h
    rw [ef]
    split at h
    · rename_i q
      have q' : rows.length ≤ 200 ∧ row.length ≤ 120 := ⟨by have := q.1; simp at this; omega, q.2⟩
      rw [if_pos q']
      split at h
      · rename_i qe
        rw [if_pos qe]
        cases h
        exact ⟨rows.length, rfl, rfl⟩
      · rename_i qe
        rw [if_neg qe]
        split at h
        · cases h
        · rename_i qm
          rw [if_neg fun z => qm (List.mem_cons_of_mem _ z)]
          rw [List.cons_append] at h
          cases qp : partM r row with
          | none =>
            rw [qp] at h
            exact fate_shift f _ _ h
          | some pk =>
            obtain ⟨p, k⟩ := pk
            rw [qp] at h
            dsimp only at h ⊢
            split at h
            · cases h
            · rename_i hk
              rw [if_neg hk]
              exact fate_shift f _ _ h
    · cases h
theorem partL_spec {r : Ru} {row p : List Nat} {k : Nat} : ∀ {ns : List Nat}, partL r row ns = some (p, k) → ∃ n ∈ ns, p = row.take n ∧ (timesOf p row).isSome = true ∧ shareM r p = some k
  | [], h => by cases h
  | n :: ns, h => by
    have ep : partL r row (n :: ns) = match cand r row n with
      | some k => some (row.take n, k)
      | none => partL r row ns := rfl
    rw [ep] at h
    unfold cand at h
    split at h
    · rename_i k' q
      cases h
      split at q
      · rename_i q2
        exact ⟨n, by simp, rfl, q2, q⟩
      · cases q
    · obtain ⟨m, hm, e⟩ := partL_spec h
      exact ⟨m, by simp [hm], e⟩
theorem shareM_le {r : Ru} (ok : r.Ok) {p : List Nat} {k : Nat} (h : shareM r p = some k) : p ≠ [] ∧ whole r p = true ∧ rp k p = imageM r p ∧ k ≤ 4 := by
  unfold shareM at h
  split at h
  · cases h
  · rename_i q
    have hp : p ≠ [] := fun z => q (.inl z)
    have hw : whole r p = true := by
      cases z : whole r p with
      | true => rfl
      | false => exact absurd (.inr z) q
    unfold timesOf at h
    split at h
    · rename_i q2
      cases h
      refine ⟨hp, hw, q2.2, ?_⟩
      have il := imageM_len ok p
      have h0 : 0 < p.length := List.length_pos_iff.mpr hp
      exact Nat.div_le_of_le_mul (by rw [Nat.mul_comm]; omega)
    · cases h
/-! ### behind, is_fate -/
def bhBody : DS := (sSeq (sIf (tTru (eCall 2 M_has_ended (aCons (eVar 0) (aCons (eVar 1) (aNil))))) (sRet (eC .none)) (sNil)) (sAsg 1 (eCall 2 M_next_of (aCons (eVar 0) (aCons (eVar 1) (aNil))))))
theorem bh_loop {r : Ru} (ok : r.Ok) (m : PyData) : ∀ (ds : List PyData) (l : List Nat) (t : Option LV), Lt r.ws.length l → l.length + 4 * ds.length ≤ 10000000 →
    (∃ l' t', iter r l ds.length = some l' ∧ forL (gN 3) bhBody ds [some (.fz (rD r)), some (.fz (sD l)), some (.fz m), t] = .nx [some (.fz (rD r)), some (.fz (sD l')), some (.fz m), t']) ∨
    (iter r l ds.length = none ∧ forL (gN 3) bhBody ds [some (.fz (rD r)), some (.fz (sD l)), some (.fz m), t] = .rt .none)
  | [], l, t, _, _ => .inl ⟨l, t, rfl, rfl⟩
  | d :: ds, l, t, h, hl => by
    simp only [List.length_cons] at hl
    cases q : ended r l with
    | true =>
      refine .inr ⟨by simp [iter, q], ?_⟩
      simp [forL, bhBody, M_has_ended_eq ok h, q]
    | false =>
      have hn := M_next_of_eq ok h q (by omega)
      have ln := next_len ok l
      have ih := bh_loop ok m ds (next r l) (some (.fz d)) (h.next ok) (by omega)
      have e : forL (gN 3) bhBody (d :: ds) [some (.fz (rD r)), some (.fz (sD l)), some (.fz m), t] = forL (gN 3) bhBody ds [some (.fz (rD r)), some (.fz (sD (next r l))), some (.fz m), some (.fz d)] := by
        simp [forL, bhBody, M_has_ended_eq ok h, q, hn]
      have ei : iter r l (d :: ds).length = iter r (next r l) ds.length := by simp [iter, q]
      rw [e, ei]
      exact ih
theorem M_behind_eq {r : Ru} (ok : r.Ok) {l : List Nat} (h : Lt r.ws.length l) {n : Nat} (hn : n ≤ 1000) (hl : l.length ≤ 100000) : M_behind [rD r, sD l, .int n] = .ok (wD (iter r l n)) := by
  have hr : inR (n : Int) = true := inR_of (by omega) (by omega)
  have lp := bh_loop ok (.int n) (rangeD 0 n) l none h (by rw [rangeD_len]; omega)
  rw [rangeD_len] at lp
  have e : M_behind [rD r, sD l, .int n] = outD (Fl.seq (forL (gN 3) bhBody (rangeD 0 n) [some (.fz (rD r)), some (.fz (sD l)), some (.fz (.int n)), none]) (sRet (eVar 1))) := by
    simp [M_behind, f_behind, startE, hr, bhBody]
  rw [e]
  rcases lp with ⟨l', t', e1, e2⟩ | ⟨e1, e2⟩
  · rw [e1, e2]; simp [wD]
  · rw [e1, e2]; simp [wD]
theorem iter_lt {r : Ru} (ok : r.Ok) : ∀ (n : Nat) {l x : List Nat}, Lt r.ws.length l → iter r l n = some x → Lt r.ws.length x ∧ x.length ≤ l.length + 4 * n
  | 0, l, x, h, e => by cases e; exact ⟨h, by omega⟩
  | n + 1, l, x, h, e => by
    have e2 : iter r l (n + 1) = if ended r l then none else iter r (next r l) n := rfl
    rw [e2] at e
    split at e
    · cases e
    · have h1 := iter_lt ok n (h.next ok) e
      have := next_len ok l
      exact ⟨h1.1, by omega⟩
theorem M_fate_eq {r : Ru} (ok : r.Ok) {row : List Nat} (h : rowOk r row) : M_fate [rD r, sD row] = .ok (fD (fateM r row)) := by
  have h2 := h.2
  simp [M_fate, f_fate, startE, M_look_row_ok ok h, M_fate_of_eq ok h.1 (by omega)]
end DL
namespace DL
open PySem PySem.Spec L2
@[simp] theorem ne_er : ¬ (Str.ofString "ends") = Str.ofString "round" := by decide +kernel
@[simp] theorem ne_re : ¬ (Str.ofString "round") = Str.ofString "ends" := by decide +kernel
@[simp] theorem ne_ge : ¬ (Str.ofString "grows") = Str.ofString "ends" := by decide +kernel
@[simp] theorem ne_gr : ¬ (Str.ofString "grows") = Str.ofString "round" := by decide +kernel
@[simp] theorem ne_fe : ¬ (Str.ofString "far") = Str.ofString "ends" := by decide +kernel
@[simp] theorem ne_ef : ¬ (Str.ofString "ends") = Str.ofString "far" := by decide +kernel
@[simp] theorem ne_rf : ¬ (Str.ofString "round") = Str.ofString "far" := by decide +kernel
@[simp] theorem ne_gf : ¬ (Str.ofString "grows") = Str.ofString "far" := by decide +kernel
theorem ni3 : dNotIn (.int 3) (.tuple [.int 3, .int 4]) = some (.bool false) := by rfl
theorem ni4 : dNotIn (.int 4) (.tuple [.int 3, .int 4]) = some (.bool false) := by rfl
theorem atI_two {α : Type} (x y z : α) (l : List α) : atI (x :: y :: z :: l) 2 = some z := by
  unfold atI ixN
  rw [if_pos (by omega), if_pos (by simp; omega)]; rfl
theorem atI_three {α : Type} (x y z w : α) (l : List α) : atI (x :: y :: z :: w :: l) 3 = some w := by
  unfold atI ixN
  rw [if_pos (by omega), if_pos (by simp; omega)]; rfl
theorem isf_ends {r : Ru} (ok : r.Ok) {row l : List Nat} {n : Nat} (h : rowOk r row) (hf : FateOk r row (.ends n l)) : M_is_fate [rD r, sD row, fD (.ends n l)] = .ok (.bool true) := by
  obtain ⟨h1, h2, h3⟩ := hf
  have h24 := h.2
  have hw : M_is_within [.int n, .int 0, .int 200] = .ok (.bool true) := by rw [M_is_within_int]; simp; omega
  have hb := M_behind_eq ok h.1 (n := n) (by omega) (by omega)
  rw [h2] at hb
  have hl := iter_lt ok n h.1 h2
  have he := M_has_ended_eq ok hl.1
  rw [h3] at he
  have z2 : 2 ≤ sizeLine := size1 (by omega)
  simp [M_is_fate, f_is_fate, startE, M_look_row_ok ok h, fD, ni3, atI_two, hw, hb, wD, he, z2]
theorem isf_round {r : Ru} (ok : r.Ok) {row : List Nat} {a p : Nat} (h : rowOk r row) (hf : FateOk r row (.round a p)) : M_is_fate [rD r, sD row, fD (.round a p)] = .ok (.bool true) := by
  obtain ⟨h1, h2, x, h3, h4⟩ := hf
  have h24 := h.2
  have hw : M_is_within [.int a, .int 0, .int 200] = .ok (.bool true) := by rw [M_is_within_int]; simp; omega
  have hw2 : M_is_within [.int p, .int 1, .int 200] = .ok (.bool true) := by rw [M_is_within_int]; simp; omega
  have hb := M_behind_eq ok h.1 (n := a) (by omega) (by omega)
  rw [h3] at hb
  have hl := iter_lt ok a h.1 h3
  have hb2 := M_behind_eq ok hl.1 (n := p) (by omega) (by omega)
  rw [← iter_add r a p row x h3, h4] at hb2
  have z2 : 2 ≤ sizeLine := size1 (by omega)
  simp [M_is_fate, f_is_fate, startE, M_look_row_ok ok h, fD, ni3, atI_two, hw, hw2, hb, hb2, wD, z2]
theorem isf_grows {r : Ru} (ok : r.Ok) {row p : List Nat} {n k : Nat} (h : rowOk r row) (hf : FateOk r row (.grows n p k)) : M_is_fate [rD r, sD row, fD (.grows n p k)] = .ok (.bool true) := by
  obtain ⟨h1, x, h2, h3, h5, h4, hk⟩ := hf
  have h24 := h.2
  have hw : M_is_within [.int n, .int 0, .int 200] = .ok (.bool true) := by rw [M_is_within_int]; simp; omega
  have hb := M_behind_eq ok h.1 (n := n) (by omega) (by omega)
  rw [h2] at hb
  have hl := iter_lt ok n h.1 h2
  obtain ⟨m, hm, hp, ht, hs⟩ := partL_spec h4
  obtain ⟨m1, m2⟩ := mem_oneTo.mp hm
  obtain ⟨pn, _, _, k4⟩ := shareM_le ok hs
  have hpl : p.length = m := by rw [hp, List.length_take]; omega
  have hplt : Lt r.ws.length p := by rw [hp]; exact hl.1.take m
  have hxn : x ≠ [] := by intro z; rw [z] at m2; simp at m2; omega
  have hT := M_times_of_eq (p := p) (w := x) (by omega) (by omega) (by omega)
  obtain ⟨t, ht⟩ := Option.isSome_iff_exists.mp ht
  rw [ht] at hT
  have hS := M_share_eq ok hplt (by omega)
  rw [hs] at hS
  have hw2 : M_is_within [.int k, .int 2, .int 99] = .ok (.bool true) := by rw [M_is_within_int]; simp; omega
  have z2 : 2 ≤ sizeLine := size1 (by omega)
  have z : p.length ≤ sizeLine := size1 (by omega)
  have n3 := ok.n3
  have lc : lcL (gN 4) (t2 dNotIn (eVar 4) (eCut (eC (.str (Str.ofString "abc"))) (oNone) (oSome (eB dLen (aCons (e2 dIx (eVar 0) (eC (.int 1))) (aNil)))))) (eVar 4) [some (.fz (rD r)), some (.fz (sD row)), some (.fz (.tuple [.str "grows", .int n, sD p, .int k])), some (.fz (sD x)), none] (p.map fun c => sD [c]) = .ok [] := by
    rw [lcL_map (fun c => sD [c]) (fun _ => false) (fun c => sD [c]) p]
    · simp
    · intro c hc
      have hin : c ∈ [97, 98, 99].take r.ws.length := (mem_abc n3).mpr (hplt c hc)
      exact ⟨by simp [cut_abc n3, v_notin_sign, hin], fun z => by cases z⟩
  simp [M_is_fate, f_is_fate, startE, M_look_row_ok ok h, fD, ni4, atI_two, atI_three, hw, hw2, hb, wD, S_nil, pn, hxn, lc, hT, hS, oD, z, z2]
end DL
namespace DL
open PySem PySem.Spec L2
def bestF : List Nat × Nat → Nat → List (List Nat) → List Nat × Nat
  | b, _, [] => b
  | b, k, x :: xs => bestF (if b.1.length < x.length then (x, k) else b) (k + 1) xs
def BestOk (rows : List (List Nat)) (b : List Nat × Nat) : Prop := rows[b.2]? = some b.1 ∧ (∀ j x, j < b.2 → rows[j]? = some x → x.length < b.1.length) ∧ ∀ x ∈ rows, x.length ≤ b.1.length
theorem bestF_ok : ∀ (xs pre : List (List Nat)) (b : List Nat × Nat), BestOk pre b → BestOk (pre ++ xs) (bestF b pre.length xs)
  | [], pre, b, h => by rw [List.append_nil]; exact h
  | x :: xs, pre, b, h => by
    obtain ⟨h1, h2, h3⟩ := h
    have hb : b.2 < pre.length := (List.getElem?_eq_some_iff.mp h1).1
    have key : BestOk (pre ++ [x]) (if b.1.length < x.length then (x, pre.length) else b) := by
      split
      · rename_i q
        refine ⟨by simp, fun j y hj e => ?_, fun y hy => ?_⟩
        · rw [List.getElem?_append_left hj] at e
          exact Nat.lt_of_le_of_lt (h3 y (List.mem_of_getElem? e)) q
        · rcases List.mem_append.mp hy with hy | hy
          · exact Nat.le_of_lt (Nat.lt_of_le_of_lt (h3 y hy) q)
          · simp at hy; rw [hy]; exact Nat.le_refl _
      · rename_i q
        refine ⟨by rw [List.getElem?_append_left hb]; exact h1, fun j y hj e => ?_, fun y hy => ?_⟩
        · rw [List.getElem?_append_left (by omega)] at e
          exact h2 j y hj e
        · rcases List.mem_append.mp hy with hy | hy
          · exact h3 y hy
          · simp at hy; rw [hy]; omega
    have := bestF_ok xs (pre ++ [x]) _ key
    rw [List.append_assoc, List.length_append, List.length_singleton] at this
    exact this
def bD (b : List Nat × Nat) : PyData := .tuple [sD b.1, .int b.2]
def lgBody : DS := (sSeq (sAsg 1 (eCall 2 M_next_of (aCons (eVar 0) (aCons (eVar 1) (aNil))))) (sIf (t2 dGt (eB dLen (aCons (eVar 1) (aNil))) (eB dLen (aCons (e2 dIx (eVar 3) (eC (.int 0))) (aNil)))) (sAsg 3 (eTup (aCons (eVar 1) (aCons (eVar 5) (aNil))))) (sNil)))
theorem lg_loop {r : Ru} (ok : r.Ok) (x2 x4 : Option LV) : ∀ (m k : Nat) (cur : List Nat) (b : List Nat × Nat) (x5 : Option LV), Lt r.ws.length cur → cur.length + 4 * m ≤ 100000 → (∃ y, iter r cur m = some y) →
    ∃ cur' x5', forL (gN 5) lgBody ((List.range' k m).map fun k => PyData.int (k : Nat)) [some (.fz (rD r)), some (.fz (sD cur)), x2, some (.fz (bD b)), x4, x5] = .nx [some (.fz (rD r)), some (.fz (sD cur')), x2, some (.fz (bD (bestF b k (courseM r cur m).tail))), x4, x5']
  | 0, k, cur, b, x5, _, _, _ => ⟨cur, x5, by simp [forL, courseM, bestF]⟩
  | m + 1, k, cur, b, x5, h, hl, ⟨y, hy⟩ => by
    have e2 : iter r cur (m + 1) = if ended r cur then none else iter r (next r cur) m := rfl
    rw [e2] at hy
    cases q : ended r cur with
    | true => rw [q] at hy; simp at hy
    | false =>
      rw [q] at hy
      have hn := M_next_of_eq ok h q (by omega)
      have ln := next_len ok cur
      have z2 : 2 ≤ sizeLine := size1 (by omega)
      obtain ⟨t, ht⟩ := courseM_head r m (next r cur)
      have ec : (courseM r cur (m + 1)).tail = next r cur :: (courseM r (next r cur) m).tail := by
        have : courseM r cur (m + 1) = if ended r cur then [cur] else cur :: courseM r (next r cur) m := rfl
        rw [this, q, ht]; rfl
      obtain ⟨cur', x5', ih⟩ := lg_loop ok x2 x4 m (k + 1) (next r cur) (if b.1.length < (next r cur).length then (next r cur, k) else b) (some (.fz (.int k))) (h.next ok) (by omega) ⟨y, by simpa using hy⟩
      refine ⟨cur', x5', ?_⟩
      rw [ec, List.range'_succ, List.map_cons]
      have eb : bestF b k (next r cur :: (courseM r (next r cur) m).tail) = bestF (if b.1.length < (next r cur).length then (next r cur, k) else b) (k + 1) (courseM r (next r cur) m).tail := rfl
      rw [eb, ← ih]
      obtain ⟨b1, b2⟩ := b
      by_cases q2 : b1.length < (next r cur).length
      · rw [if_pos q2]
        have q2' : (b1.length : Int) < (next r cur).length := by omega
        simp [forL, lgBody, hn, bD, q2', z2]
      · rw [if_neg q2]
        have q2' : ¬ (b1.length : Int) < (next r cur).length := by omega
        simp [forL, lgBody, hn, bD, q2']
def lastOf : Fate → Nat
  | .ends n _ => n
  | .round a p => a + p - 1
  | _ => 0
theorem in_gf (z : Str) (h1 : ¬ z = Str.ofString "grows") (h2 : ¬ z = Str.ofString "far") : dIn (.str z) (.tuple [.str (Str.ofString "grows"), .str (Str.ofString "far")]) = some (.bool false) := by
  have e : dIn (.str z) (.tuple [.str (Str.ofString "grows"), .str (Str.ofString "far")]) = some (.bool ([PyData.str (Str.ofString "grows"), .str (Str.ofString "far")].any fun y => PyData.eqv y (.str z))) := rfl
  rw [e]
  have h1' : ¬ Str.ofString "grows" = z := fun e => h1 e.symm
  have h2' : ¬ Str.ofString "far" = z := fun e => h2 e.symm
  simp [PyData.eqv, h1', h2']
theorem in_g : dIn (.str (Str.ofString "grows")) (.tuple [.str (Str.ofString "grows"), .str (Str.ofString "far")]) = some (.bool true) := by
  have e : dIn (.str (Str.ofString "grows")) (.tuple [.str (Str.ofString "grows"), .str (Str.ofString "far")]) = some (.bool ([PyData.str (Str.ofString "grows"), .str (Str.ofString "far")].any fun y => PyData.eqv y (.str (Str.ofString "grows")))) := rfl
  rw [e]; simp [PyData.eqv]
theorem in_f : dIn (.str (Str.ofString "far")) (.tuple [.str (Str.ofString "grows"), .str (Str.ofString "far")]) = some (.bool true) := by
  have e : dIn (.str (Str.ofString "far")) (.tuple [.str (Str.ofString "grows"), .str (Str.ofString "far")]) = some (.bool ([PyData.str (Str.ofString "grows"), .str (Str.ofString "far")].any fun y => PyData.eqv y (.str (Str.ofString "far")))) := rfl
  rw [e]; simp [PyData.eqv]
def lgEnd (r : Ru) (row : List Nat) (n : Nat) : List Nat × Nat := bestF (row, 0) 1 (courseM r row n).tail
theorem range'_one (n : Nat) : List.range' 1 n = oneTo n := by
  unfold oneTo
  rw [List.range'_eq_map_range]
  apply List.map_congr_left
  intro k _
  omega
theorem M_longest_some {r : Ru} (ok : r.Ok) {row : List Nat} (h : rowOk r row) (hc : (∃ n l, fateM r row = .ends n l) ∨ ∃ a p, fateM r row = .round a p) : M_longest [rD r, sD row] = .ok (bD (lgEnd r row (lastOf (fateM r row)))) := by
  have h2 := h.2
  have hf := M_fate_of_eq ok h.1 (by omega)
  have fo := fateM_ok r row
  have hr1 : inR 1 = true := by decide
  have z2 : 2 ≤ sizeLine := size1 (by omega)
  have ige := in_gf (Str.ofString "ends") (by decide +kernel) (by decide +kernel)
  have igr := in_gf (Str.ofString "round") (by decide +kernel) (by decide +kernel)
  rcases hc with ⟨n, l, e⟩ | ⟨a, p, e⟩
  · rw [e] at hf fo ⊢
    obtain ⟨f1, f2, f3⟩ := fo
    have hr2 : inR ((n : Int) + 1) = true := inR_of (by omega) (by omega)
    have et : ((n : Int) + 1 - 1).toNat = n := by omega
    obtain ⟨c', x', lp⟩ := lg_loop ok (some (.fz (fD (.ends n l)))) (some (.fz (.int n))) n 1 row (row, 0) none h.1 (by omega) ⟨l, f2⟩
    rw [range'_one, ← rangeD_one] at lp
    have e2 : M_longest [rD r, sD row] = outD (Fl.seq (forL (gN 5) lgBody (rangeD 1 n) [some (.fz (rD r)), some (.fz (sD row)), some (.fz (fD (.ends n l))), some (.fz (bD (row, 0))), some (.fz (.int n)), none]) (sRet (eVar 3))) := by
      simp [M_longest, f_longest, startE, M_look_row_ok ok h, hf, fD, z2, ige, hr1, hr2, et, lgBody, bD]
    rw [e2, lp]
    simp [lgEnd, lastOf]
  · rw [e] at hf fo ⊢
    obtain ⟨f1, f2, x, f3, f4⟩ := fo
    have hr2 : inR ((a : Int) + p - 1 + 1) = true := inR_of (by omega) (by omega)
    have et : ((a : Int) + p - 1 + 1 - 1).toNat = a + p - 1 := by omega
    have el : ((a : Int) + p - 1) = ((a + p - 1 : Nat) : Int) := by omega
    have hy : ∃ y, iter r row (a + p - 1) = some y := by
      have e4 := iter_snoc r (a + p - 1) row
      rw [show a + p - 1 + 1 = a + p by omega, f4] at e4
      cases q : iter r row (a + p - 1) with
      | none => rw [q] at e4; cases e4
      | some y => exact ⟨y, rfl⟩
    obtain ⟨c', x', lp⟩ := lg_loop ok (some (.fz (fD (.round a p)))) (some (.fz (.int ((a : Int) + p - 1)))) (a + p - 1) 1 row (row, 0) none h.1 (by omega) hy
    rw [range'_one, ← rangeD_one] at lp
    have e2 : M_longest [rD r, sD row] = outD (Fl.seq (forL (gN 5) lgBody (rangeD 1 (a + p - 1)) [some (.fz (rD r)), some (.fz (sD row)), some (.fz (fD (.round a p))), some (.fz (bD (row, 0))), some (.fz (.int ((a : Int) + p - 1))), none]) (sRet (eVar 3))) := by
      generalize hm : a + p - 1 = m at et
      simp only [Int.sub_add_cancel] at hr2 et
      simp [M_longest, f_longest, startE, M_look_row_ok ok h, hf, fD, z2, igr, hr1, hr2, et, lgBody, bD, atI_two]
    rw [e2, lp]
    simp [lgEnd, lastOf]
theorem M_longest_none {r : Ru} (ok : r.Ok) {row : List Nat} (h : rowOk r row) (hc : (∃ n p k, fateM r row = .grows n p k) ∨ ∃ a p, fateM r row = .far a p) : M_longest [rD r, sD row] = .ok .none := by
  have h2 := h.2
  have hf := M_fate_of_eq ok h.1 (by omega)
  have z2 : 2 ≤ sizeLine := size1 (by omega)
  rcases hc with ⟨n, p, k, e⟩ | ⟨a, p, e⟩
  · rw [e] at hf
    simp [M_longest, f_longest, startE, M_look_row_ok ok h, hf, fD, z2, in_g]
  · rw [e] at hf
    simp [M_longest, f_longest, startE, M_look_row_ok ok h, hf, fD, z2, in_f]
end DL
namespace DL
open PySem PySem.Spec L2
def f_all_parts : DS := sSeq (sExpr (eCall 1 M_look (aCons (eVar 0) (aNil)))) (sSeq (sIf (tNot (tTru (eCall 3 M_is_within (aCons (eVar 1) (aCons (eC (.int 1)) (aCons (eC (.int 6)) (aNil))))))) (sRaise "BadCount") (sNil)) (sSeq (sAsg 2 (eFz (nLst (aCons (eC (.str "")) (aNil))))) (sSeq (sFor (iR1 (aCons (eVar 1) (aNil))) (gN 3) (sSeq (sOwn 4 (nLst (aNil))) (sSeq (sFor (iSeq (eVar 2)) (gN 5) (sExt 4 (eFz (nLc [6] (iSeq (eCut (eC (.str "abc")) (oNone) (oSome (eB dLen (aCons (e2 dIx (eVar 0) (eC (.int 1))) (aNil)))))) (gN 6) (tTrue) (e2 dAdd (eVar 5) (eVar 6)))))) (sFz 4 (sAsg 2 (eVar 4)))))) (sRet (eFz (nLc [5] (iSeq (eVar 2)) (gN 5) (t2 dIsNot (eCall 2 M_share (aCons (eVar 0) (aCons (eVar 5) (aNil)))) (eC .none)) (eTup (aCons (eVar 5) (aCons (eCall 2 M_share (aCons (eVar 0) (aCons (eVar 5) (aNil)))) (aNil))))))))))
def M_all_parts : List D → Rs D := fun ds => outD (f_all_parts (startE 7 ds))

def f_words_to : DS := sSeq (sOwn 2 (nLst (aCons (eC (.str "")) (aNil)))) (sSeq (sAsg 3 (eFz (nLst (aCons (eC (.str "")) (aNil))))) (sSeq (sFor (iR1 (aCons (eVar 1) (aNil))) (gN 4) (sSeq (sOwn 5 (nLst (aNil))) (sSeq (sFor (iSeq (eVar 3)) (gN 6) (sExt 5 (eFz (nLc [7] (iSeq (eCut (eC (.str "abc")) (oNone) (oSome (eVar 0)))) (gN 7) (tTrue) (e2 dAdd (eVar 6) (eVar 7)))))) (sSeq (sFz 5 (sAsg 3 (eVar 5))) (sExt 2 (eVar 3)))))) (sFz 2 (sRet (eVar 2)))))
def M_words_to : List D → Rs D := fun ds => outD (f_words_to (startE 8 ds))

def f_sorted_out : DS := sSeq (sExpr (eCall 1 M_look (aCons (eVar 0) (aNil)))) (sSeq (sIf (tNot (tTru (eCall 3 M_is_within (aCons (eVar 1) (aCons (eC (.int 0)) (aCons (eC (.int 4)) (aNil))))))) (sRaise "BadCount") (sNil)) (sSeq (sDisp 2 [("ends", 0), ("round", 0), ("grows", 0), ("far", 0)]) (sSeq (sFor (iSeq (eCall 2 M_words_to (aCons (eB dLen (aCons (e2 dIx (eVar 0) (eC (.int 1))) (aNil))) (aCons (eVar 1) (aNil))))) (gN 3) (sAugK 2 (e2 dIx (eCall 2 M_fate_of (aCons (eVar 0) (aCons (eVar 3) (aNil)))) (eC (.int 0))) (eC (.int 1)))) (sRet (eTup (aCons (eGetK 2 (eC (.str "ends"))) (aCons (eGetK 2 (eC (.str "round"))) (aCons (eGetK 2 (eC (.str "grows"))) (aCons (eGetK 2 (eC (.str "far"))) (aNil))))))))))
def M_sorted_out : List D → Rs D := fun ds => outD (f_sorted_out (startE 4 ds))

def f_image : DS := sSeq (sExpr (eCall 2 M_look_row (aCons (eVar 0) (aCons (eVar 1) (aNil))))) (sSeq (sIf (tNot (tTru (eCall 2 M_is_whole (aCons (eVar 0) (aCons (eVar 1) (aNil)))))) (sRaise "BadWord") (sNil)) (sRet (eCall 2 M_told_of (aCons (eVar 0) (aCons (eVar 1) (aNil))))))
def M_image : List D → Rs D := fun ds => outD (f_image (startE 2 ds))

def f_ahead_of : DS := sSeq (sOwn 2 (nLst (aNil))) (sSeq (sAsg 3 (eFz (nLst (aCons (eC (.str "")) (aNil))))) (sSeq (sFor (iR1 (aCons (e2 dSub (e2 dIx (eVar 0) (eC (.int 0))) (eC (.int 1))) (aNil))) (gN 4) (sSeq (sOwn 5 (nLst (aNil))) (sSeq (sFor (iSeq (eVar 3)) (gN 6) (sExt 5 (eFz (nLc [7] (iSeq (eCut (eC (.str "abc")) (oNone) (oSome (eB dLen (aCons (e2 dIx (eVar 0) (eC (.int 1))) (aNil)))))) (gN 7) (tTrue) (e2 dAdd (eVar 6) (eVar 7)))))) (sFz 5 (sAsg 3 (eVar 5)))))) (sSeq (sFor (iSeq (eCut (eC (.str "abc")) (oNone) (oSome (eB dLen (aCons (e2 dIx (eVar 0) (eC (.int 1))) (aNil)))))) (gN 7) (sSeq (sAsg 8 (eCall 2 M_word_of (aCons (eVar 0) (aCons (eVar 7) (aNil))))) (sIf (tAnd (t2 dIsNot (eVar 8) (eC .none)) (tTru (eM "str" dEnds (eVar 1) (aCons (eVar 8) (aNil))))) (sExt 2 (eFz (nLc [6] (iSeq (eVar 3)) (gN 6) (tTrue) (e2 dAdd (e2 dAdd (eVar 7) (eVar 6)) (eCut (eVar 1) (oNone) (oSome (e2 dSub (eB dLen (aCons (eVar 1) (aNil))) (eB dLen (aCons (eVar 8) (aNil)))))))))) (sNil)))) (sRet (eFz (nB dSorted (aCons (eVarB 2) (aNil))))))))
def M_ahead_of : List D → Rs D := fun ds => outD (f_ahead_of (startE 9 ds))

def f_leading : DS := sSeq (sExpr (eCall 2 M_look_row (aCons (eVar 0) (aCons (eVar 1) (aNil))))) (sSeq (sIf (tNot (tTru (eCall 3 M_is_within (aCons (eVar 2) (aCons (eC (.int 0)) (aCons (eC (.int 4)) (aNil))))))) (sRaise "BadCount") (sNil)) (sSeq (sAsg 3 (eFz (nLst (aCons (eVar 1) (aNil))))) (sSeq (sFor (iR1 (aCons (eVar 2) (aNil))) (gN 4) (sSeq (sNewK 5) (sSeq (sFor (iSeq (eVar 3)) (gN 6) (sFor (iSeq (eCall 2 M_ahead_of (aCons (eVar 0) (aCons (eVar 6) (aNil))))) (gN 7) (sPutK 5 (eVar 7) (eC (.bool true))))) (sSeq (sIf (t2 dGt (eLenK 5) (eC (.int 500))) (sRaise "TooMany") (sNil)) (sAsg 3 (eFz (nSortKA 5))))))) (sRet (eVar 3)))))
def M_leading : List D → Rs D := fun ds => outD (f_leading (startE 8 ds))

def f_before : DS := sSeq (sExpr (eCall 2 M_look_row (aCons (eVar 0) (aCons (eVar 1) (aNil))))) (sRet (eCall 2 M_ahead_of (aCons (eVar 0) (aCons (eVar 1) (aNil)))))
def M_before : List D → Rs D := fun ds => outD (f_before (startE 2 ds))

def f_root_of : DS := sSeq (sFor (iR2 (aCons (eC (.int 1)) (aCons (e2 dAdd (eB dLen (aCons (eVar 0) (aNil))) (eC (.int 1))) (aNil)))) (gN 1) (sIf (tAnd (t2 dEq (e2 dMod (eB dLen (aCons (eVar 0) (aNil))) (eVar 1)) (eC (.int 0))) (t2 dEq (e2 dMul (eCut (eVar 0) (oNone) (oSome (eVar 1))) (e2 dDiv (eB dLen (aCons (eVar 0) (aNil))) (eVar 1))) (eVar 0))) (sRet (eTup (aCons (eCut (eVar 0) (oNone) (oSome (eVar 1))) (aCons (e2 dDiv (eB dLen (aCons (eVar 0) (aNil))) (eVar 1)) (aNil))))) (sNil))) (sRet (eTup (aCons (eC (.str "")) (aCons (eC (.int 0)) (aNil)))))
def M_root_of : List D → Rs D := fun ds => outD (f_root_of (startE 2 ds))

def f_root : DS := sSeq (sExpr (eCall 2 M_look_row (aCons (eVar 0) (aCons (eVar 1) (aNil))))) (sRet (eCall 1 M_root_of (aCons (eVar 1) (aNil))))
def M_root : List D → Rs D := fun ds => outD (f_root (startE 2 ds))

def f_grows_by : DS := sSeq (sExpr (eCall 2 M_look_row (aCons (eVar 0) (aCons (eVar 1) (aNil))))) (sRet (eCall 2 M_share (aCons (eVar 0) (aCons (eVar 1) (aNil)))))
def M_grows_by : List D → Rs D := fun ds => outD (f_grows_by (startE 2 ds))

def f__law_asked : DS := sSeq (sIf (t2 dLt (eVar 0) (eC (.int 4))) (sSeq (sIf (t2 dEq (eVar 0) (eC (.int 0))) (sRet (eCall 2 M_next_row (aCons (eVar 1) (aCons (eVar 2) (aNil))))) (sNil)) (sSeq (sIf (t2 dEq (eVar 0) (eC (.int 1))) (sRet (eCall 3 M_after (aCons (eVar 1) (aCons (eVar 2) (aCons (eVar 3) (aNil)))))) (sNil)) (sRet (eIf (t2 dEq (eVar 0) (eC (.int 2))) (eCall 2 M_image (aCons (eVar 1) (aCons (eVar 2) (aNil)))) (eCall 3 M_leading (aCons (eVar 1) (aCons (eVar 2) (aCons (eVar 3) (aNil))))))))) (sNil)) (sSeq (sIf (t2 dLt (eVar 0) (eC (.int 8))) (sSeq (sIf (t2 dEq (eVar 0) (eC (.int 4))) (sRet (eCall 3 M_course (aCons (eVar 1) (aCons (eVar 2) (aCons (eVar 3) (aNil)))))) (sNil)) (sSeq (sIf (t2 dEq (eVar 0) (eC (.int 5))) (sRet (eCall 2 M_before (aCons (eVar 1) (aCons (eVar 2) (aNil))))) (sNil)) (sRet (eIf (t2 dEq (eVar 0) (eC (.int 6))) (eCall 2 M_root (aCons (eVar 1) (aCons (eVar 2) (aNil)))) (eCall 2 M_grows_by (aCons (eVar 1) (aCons (eVar 2) (aNil)))))))) (sNil)) (sSeq (sIf (t2 dLt (eVar 0) (eC (.int 11))) (sSeq (sIf (t2 dEq (eVar 0) (eC (.int 8))) (sRet (eCall 2 M_fate (aCons (eVar 1) (aCons (eVar 2) (aNil))))) (sNil)) (sRet (eIf (t2 dEq (eVar 0) (eC (.int 9))) (eCall 3 M_is_fate (aCons (eVar 1) (aCons (eVar 2) (aCons (eVar 3) (aNil))))) (eCall 2 M_longest (aCons (eVar 1) (aCons (eVar 2) (aNil))))))) (sNil)) (sSeq (sIf (t2 dEq (eVar 0) (eC (.int 11))) (sRet (eCall 3 M_meet (aCons (eVar 1) (aCons (eVar 2) (aCons (eVar 3) (aNil)))))) (sNil)) (sRet (eIf (t2 dEq (eVar 0) (eC (.int 12))) (eCall 2 M_all_parts (aCons (eVar 1) (aCons (eVar 3) (aNil)))) (eCall 2 M_sorted_out (aCons (eVar 1) (aCons (eVar 3) (aNil)))))))))
def M__law_asked : List D → Rs D := fun ds => outD (f__law_asked (startE 4 ds))

def ex__law_told : List (Str × List Str) := [("BadRules", ["BadRules", "CutError", "ValueError"]), ("BadRow", ["BadRow", "CutError", "ValueError"]), ("BadCount", ["BadCount", "CutError", "ValueError"]), ("Ended", ["Ended", "CutError", "ValueError"]), ("BadWord", ["BadWord", "CutError", "ValueError"]), ("TooMany", ["TooMany", "CutError", "ValueError"])]
def f__law_told : DS := sSeq (sAsg 4 (eC (.str ""))) (sSeq (sTry ex__law_told (sAsg 4 (eCall 4 M__law_asked (aCons (eVar 0) (aCons (eVar 1) (aCons (eVar 2) (aCons (eVar 3) (aNil))))))) [("Ended", sAsg 4 (eC (.str "ended"))), ("BadWord", sAsg 4 (eC (.str "word"))), ("TooMany", sAsg 4 (eC (.str "many"))), ("BadRules", sAsg 4 (eC (.str "rules"))), ("BadRow", sAsg 4 (eC (.str "row"))), ("BadCount", sAsg 4 (eC (.str "count")))]) (sRet (eVar 4)))
def M__law_told : List D → Rs D := fun ds => outD (f__law_told (startE 5 ds))

def f__law_every : DS := sSeq (sAsg 2 (eFz (nLst (aCons (eC (.str "")) (aNil))))) (sSeq (sFor (iR1 (aCons (eVar 1) (aNil))) (gN 3) (sSeq (sAsg 4 (eFz (nLst (aNil)))) (sSeq (sFor (iSeq (eVar 2)) (gN 5) (sAsg 4 (e2 dAdd (eVar 4) (eFz (nLc [6] (iSeq (eCut (eC (.str "abc")) (oNone) (oSome (eVar 0)))) (gN 6) (tTrue) (e2 dAdd (eVar 5) (eVar 6))))))) (sAsg 2 (eVar 4))))) (sRet (eVar 2)))
def M__law_every : List D → Rs D := fun ds => outD (f__law_every (startE 7 ds))

end DL
namespace DL
open PySem PySem.Spec L2
/-! ### no counts -/
theorem within_none (lo hi : Int) : M_is_within [.none, .int lo, .int hi] = .ok (.bool false) := by simp [M_is_within, f_is_within, startE]
theorem within_bool (b : Bool) (lo hi : Int) : M_is_within [.bool b, .int lo, .int hi] = .ok (.bool false) := by simp [M_is_within, f_is_within, startE]
theorem within_str (z : Str) (lo hi : Int) : M_is_within [.str z, .int lo, .int hi] = .ok (.bool false) := by simp [M_is_within, f_is_within, startE]
theorem within_no {i lo hi : Int} (h : i < lo ∨ hi < i) : M_is_within [.int i, .int lo, .int hi] = .ok (.bool false) := by
  rw [M_is_within_int, decide_eq_false]; omega
theorem within_yes {i lo hi : Int} (h : lo ≤ i ∧ i ≤ hi) : M_is_within [.int i, .int lo, .int hi] = .ok (.bool true) := by
  rw [M_is_within_int, decide_eq_true h]
theorem M_after_bad {r : Ru} (ok : r.Ok) {l : List Nat} (h : rowOk r l) {d : PyData} (hd : M_is_within [d, .int 0, .int 200] = .ok (.bool false)) : M_after [rD r, sD l, d] = .ex "BadCount" := by
  simp [M_after, f_after, startE, M_look_row_ok ok h, hd]
theorem M_course_bad {r : Ru} (ok : r.Ok) {l : List Nat} (h : rowOk r l) {d : PyData} (hd : M_is_within [d, .int 0, .int 200] = .ok (.bool false)) : M_course [rD r, sD l, d] = .ex "BadCount" := by
  simp [M_course, f_course, startE, M_look_row_ok ok h, hd]
theorem M_leading_bad {r : Ru} (ok : r.Ok) {l : List Nat} (h : rowOk r l) {d : PyData} (hd : M_is_within [d, .int 0, .int 4] = .ok (.bool false)) : M_leading [rD r, sD l, d] = .ex "BadCount" := by
  simp [M_leading, f_leading, startE, M_look_row_ok ok h, hd]
theorem M_all_parts_bad {r : Ru} (ok : r.Ok) {d : PyData} (hd : M_is_within [d, .int 1, .int 6] = .ok (.bool false)) : M_all_parts [rD r, d] = .ex "BadCount" := by
  simp [M_all_parts, f_all_parts, startE, M_look_ok ok, hd]
theorem M_sorted_out_bad {r : Ru} (ok : r.Ok) {d : PyData} (hd : M_is_within [d, .int 0, .int 4] = .ok (.bool false)) : M_sorted_out [rD r, d] = .ex "BadCount" := by
  simp [M_sorted_out, f_sorted_out, startE, M_look_ok ok, hd]
theorem M_leading_zero {r : Ru} (ok : r.Ok) {l : List Nat} (h : rowOk r l) : M_leading [rD r, sD l, .int 0] = .ok (.list [sD l]) := by
  have hw : M_is_within [.int 0, .int 0, .int 4] = .ok (.bool true) := within_yes (by omega)
  have z : 1 ≤ sizeLine := size1 (by omega)
  have hr : inR 0 = true := by decide
  simp [M_leading, f_leading, startE, M_look_row_ok ok h, hw, z, hr, rangeD, forL]
/-! ### images, roots -/
theorem M_image_eq {r : Ru} (ok : r.Ok) {l : List Nat} (h : rowOk r l) : M_image [rD r, sD l] = if whole r l then .ok (sD (imageM r l)) else .ex "BadWord" := by
  have h2 := h.2
  have hw := M_is_whole_eq ok h.1 (by omega)
  cases q : whole r l with
  | false => rw [q] at hw; simp [M_image, f_image, startE, M_look_row_ok ok h, hw]
  | true => rw [q] at hw; simp [M_image, f_image, startE, M_look_row_ok ok h, hw, M_told_of_eq ok h.1 (by omega) q]
theorem M_grows_by_eq {r : Ru} (ok : r.Ok) {l : List Nat} (h : rowOk r l) : M_grows_by [rD r, sD l] = .ok (oD (shareM r l)) := by
  have h2 := h.2
  simp [M_grows_by, f_grows_by, startE, M_look_row_ok ok h, M_share_eq ok h.1 (by omega)]
def rootL (w : List Nat) : List Nat → List Nat × Nat
  | [] => ([], 0)
  | n :: ns => if w.length % n = 0 ∧ rp (w.length / n) (w.take n) = w then (w.take n, w.length / n) else rootL w ns
def rootM (w : List Nat) : List Nat × Nat := rootL w (oneTo w.length)
def rtBody : DS := (sIf (tAnd (t2 dEq (e2 dMod (eB dLen (aCons (eVar 0) (aNil))) (eVar 1)) (eC (.int 0))) (t2 dEq (e2 dMul (eCut (eVar 0) (oNone) (oSome (eVar 1))) (e2 dDiv (eB dLen (aCons (eVar 0) (aNil))) (eVar 1))) (eVar 0))) (sRet (eTup (aCons (eCut (eVar 0) (oNone) (oSome (eVar 1))) (aCons (e2 dDiv (eB dLen (aCons (eVar 0) (aNil))) (eVar 1)) (aNil))))) (sNil))
theorem rt_loop {w : List Nat} (hw : w.length ≤ 1000) : ∀ (ns : List Nat) (x : Option LV), (∀ n ∈ ns, 1 ≤ n ∧ n ≤ w.length) →
    Fl.seq (forL (gN 1) rtBody (ns.map fun k => PyData.int (k : Nat)) [some (.fz (sD w)), x]) (sRet (eTup (aCons (eC (.str "")) (aCons (eC (.int 0)) (aNil))))) = .rt (bD (rootL w ns))
  | [], x, _ => by
    have z2 : 2 ≤ sizeLine := size1 (by omega)
    simp [forL, rootL, bD, S_nil, z2]
  | n :: ns, x, hn => by
    obtain ⟨h1, h2⟩ := hn n (by simp)
    have z2 : 2 ≤ sizeLine := size1 (by omega)
    have hlen : (w.take n).length = n := by rw [List.length_take]; omega
    have hm := v_modN (a := w.length) (b := n) (by omega)
    have hd := v_divN (a := w.length) (b := n) (by omega) (by omega)
    have hk : w.length / n ≤ w.length := Nat.div_le_self _ _
    have hkp : n * (w.length / n) ≤ w.length := Nat.mul_div_le _ _
    have hx := v_mulS (w.take n) (k := w.length / n) (by rw [hlen]; omega) (by omega)
    have hc := cutS_to w n
    have ih := rt_loop hw ns (some (.fz (.int n))) (fun n h => hn n (by simp [h]))
    have er : rootL w (n :: ns) = if w.length % n = 0 ∧ rp (w.length / n) (w.take n) = w then (w.take n, w.length / n) else rootL w ns := rfl
    rw [er]
    generalize w.length / n = m at *
    generalize w.take n = p at *
    by_cases q : w.length % n = 0
    · rw [q] at hm
      by_cases q2 : rp m p = w
      · rw [if_pos ⟨q, q2⟩]
        rw [q2] at hx
        simp [forL, rtBody, -v_mod, -v_div, -v_mul2, hm, hd, hx, hc, z2, bD]
      · rw [if_neg fun z => q2 z.2, ← ih]
        simp [forL, rtBody, -v_mod, -v_div, -v_mul2, hm, hd, hx, hc, q2]
    · rw [if_neg fun z => q z.1, ← ih]
      generalize w.length % n = k at *
      have q' : ¬ ((k : Nat) : Int) = 0 := by omega
      simp [forL, rtBody, -v_mod, -v_div, -v_mul2, hm, q]
theorem M_root_of_eq {w : List Nat} (hw : w.length ≤ 1000) : M_root_of [sD w] = .ok (bD (rootM w)) := by
  have hr1 : inR 1 = true := by decide
  have hr2 : inR ((w.length : Int) + 1) = true := inR_of (by omega) (by omega)
  have et : ((w.length : Int) + 1 - 1).toNat = w.length := by omega
  have lp := rt_loop hw (oneTo w.length) none (fun n hn => mem_oneTo.mp hn)
  rw [← rangeD_one] at lp
  have e : M_root_of [sD w] = outD (Fl.seq (forL (gN 1) rtBody (rangeD 1 w.length) [some (.fz (sD w)), none]) (sRet (eTup (aCons (eC (.str "")) (aCons (eC (.int 0)) (aNil)))))) := by
    simp [M_root_of, f_root_of, startE, hr1, hr2, et, rtBody]
  rw [e, lp]; rfl
theorem M_root_eq {r : Ru} (ok : r.Ok) {l : List Nat} (h : rowOk r l) : M_root [rD r, sD l] = .ok (bD (rootM l)) := by
  have h2 := h.2
  simp [M_root, f_root, startE, M_look_row_ok ok h, M_root_of_eq (w := l) (by omega)]
/-! ### lists of words -/
@[simp] theorem r_sExt {ρ : En} {fe : DEx} (i : Nat) : sExt i fe ρ = sBind (ownAt ρ i) ρ fun ds => sBind (fe ρ) ρ fun d => match d with
  | .list es => if ds.length + es.length ≤ sizeLine then .nx (ρ.set i (some (.own (ds ++ es)))) else .bad
  | _ => .bad := id rfl
def grE (cutE : DEx) (w v : Nat) : DEx := eFz (nLc [v] (iSeq cutE) (gN v) (tTrue) (e2 dAdd (eVar w) (eVar v)))
theorem get_set {ρ : En} {i : Nat} {x : Option LV} (h : i < ρ.length) : (ρ.set i x)[i]? = some x := by simp [h]
theorem get_set2 {ρ : En} {i j : Nat} {x : Option LV} (h : i ≠ j) : (ρ.set i x)[j]? = ρ[j]? := by simp [List.getElem?_set, h]
theorem grE_eq {cutE : DEx} {w v : Nat} {ρ : En} {ls o : List Nat} (hc : cutE ρ = .ok (sD ls)) (hw : ρ[w]? = some (some (.fz (sD o)))) (hv : v < ρ.length) (hwv : w ≠ v) (h3 : ls.length ≤ 3) (ho : o.length ≤ 1000) :
    grE cutE w v ρ = .ok (.list ((ls.map fun c => o ++ [c]).map sD)) := by
  have hz : o.length + 1 ≤ sizeLine := size1 (by omega)
  have hz2 : ls.length ≤ sizeLine := size1 (by omega)
  have lc : lcL (gN v) tTrue (e2 dAdd (eVar w) (eVar v)) (ρ.set v none) (ls.map fun c => sD [c]) = .ok (ls.map fun c => sD (o ++ [c])) := by
    refine lcL_all _ _ _ fun c _ => ?_
    have e1 : ((ρ.set v none).set v (some (.fz (sD [c]))))[v]? = some (some (.fz (sD [c]))) := by simp [hv]
    have e2 : ((ρ.set v none).set v (some (.fz (sD [c]))))[w]? = some (some (.fz (sD o))) := by
      rw [get_set2 (Ne.symm hwv), get_set2 (Ne.symm hwv), hw]
    rw [r_e2, r_eVar, r_eVar, e1, e2]
    simp [hz]
  simp [grE, hc, hz2, lc, Function.comp_def]
theorem grow_ext {cutE : DEx} {i w v : Nat} {ρ : En} {ls : List Nat} (hc : ∀ a b, cutE ((ρ.set i a).set w b) = .ok (sD ls)) (hi : i < ρ.length) (hw : w < ρ.length) (hv : v < ρ.length) (hiw : i ≠ w) (hwv : w ≠ v) (h3 : ls.length ≤ 3) :
    ∀ (os acc : List (List Nat)) (x : Option LV), (∀ o ∈ os, o.length ≤ 1000) → acc.length + 3 * os.length ≤ 10000 →
    ∃ y, forL (gN w) (sExt i (grE cutE w v)) (os.map sD) ((ρ.set i (some (.own (acc.map sD)))).set w x) = .nx ((ρ.set i (some (.own ((acc ++ growL ls os).map sD)))).set w y)
  | [], acc, x, _, _ => ⟨x, by simp [forL, growL]⟩
  | o :: os, acc, x, ho, hl => by
    simp only [List.length_cons] at hl
    have h1 := ho o (by simp)
    obtain ⟨y, ih⟩ := grow_ext hc hi hw hv hiw hwv h3 os (acc ++ ls.map fun c => o ++ [c]) (some (.fz (sD o))) (fun o h => ho o (by simp [h])) (by simp; omega)
    refine ⟨y, ?_⟩
    have e0 : ((ρ.set i (some (.own (acc.map sD)))).set w x).set w (some (.fz (sD o))) = (ρ.set i (some (.own (acc.map sD)))).set w (some (.fz (sD o))) := by simp
    have hg : grE cutE w v ((ρ.set i (some (.own (acc.map sD)))).set w (some (.fz (sD o)))) = .ok (.list ((ls.map fun c => o ++ [c]).map sD)) :=
      grE_eq (hc _ _) (get_set (by simpa using hw)) (by simpa using hv) hwv h3 h1
    have e1 : ((ρ.set i (some (.own (acc.map sD)))).set w (some (.fz (sD o))))[i]? = some (some (.own (acc.map sD))) := by
      rw [get_set2 (Ne.symm hiw), get_set hi]
    have e2 : ∀ z, ((ρ.set i (some (.own (acc.map sD)))).set w (some (.fz (sD o)))).set i z = (ρ.set i z).set w (some (.fz (sD o))) := by
      intro z
      rw [List.set_comm _ _ (Ne.symm hiw), List.set_set]
    have hz : acc.length + ls.length ≤ sizeLine := size1 (by omega)
    have e3 : growL ls (o :: os) = (ls.map fun c => o ++ [c]) ++ growL ls os := by simp [growL]
    have st : sExt i (grE cutE w v) ((ρ.set i (some (.own (acc.map sD)))).set w (some (.fz (sD o)))) = .nx ((ρ.set i (some (.own ((acc ++ ls.map fun c => o ++ [c]).map sD)))).set w (some (.fz (sD o)))) := by
      rw [r_sExt, r_ownAt, e1, hg]
      simp only [sb_ok, List.length_map]
      rw [if_pos hz, e2, List.map_append]
    rw [List.map_cons, e3, ← List.append_assoc, ← ih]
    simp only [forL, r_gN, e0, st]
end DL
namespace DL
open PySem PySem.Spec L2
/-! ### what is told, or the word of the class that refuses -/
abbrev hsT : List (Str × DS) := [("Ended", sAsg 4 (eC (.str "ended"))), ("BadWord", sAsg 4 (eC (.str "word"))), ("TooMany", sAsg 4 (eC (.str "many"))), ("BadRules", sAsg 4 (eC (.str "rules"))), ("BadRow", sAsg 4 (eC (.str "row"))), ("BadCount", sAsg 4 (eC (.str "count")))]
theorem hand_Ended (ρ : En) : Fl.hand (.ex "Ended" ρ) ex__law_told hsT = .nx (ρ.set 4 (some (.fz (.str "ended")))) := by rfl
theorem hand_Word (ρ : En) : Fl.hand (.ex "BadWord" ρ) ex__law_told hsT = .nx (ρ.set 4 (some (.fz (.str "word")))) := by rfl
theorem hand_Many (ρ : En) : Fl.hand (.ex "TooMany" ρ) ex__law_told hsT = .nx (ρ.set 4 (some (.fz (.str "many")))) := by rfl
theorem hand_Rules (ρ : En) : Fl.hand (.ex "BadRules" ρ) ex__law_told hsT = .nx (ρ.set 4 (some (.fz (.str "rules")))) := by rfl
theorem hand_Row (ρ : En) : Fl.hand (.ex "BadRow" ρ) ex__law_told hsT = .nx (ρ.set 4 (some (.fz (.str "row")))) := by rfl
theorem hand_Count (ρ : En) : Fl.hand (.ex "BadCount" ρ) ex__law_told hsT = .nx (ρ.set 4 (some (.fz (.str "count")))) := by rfl
section
variable {k a b c : PyData}
theorem told_ok {d : PyData} (h : M__law_asked [k, a, b, c] = .ok d) : M__law_told [k, a, b, c] = .ok d := by simp [M__law_told, f__law_told, startE, h]
theorem told_ended (h : M__law_asked [k, a, b, c] = .ex "Ended") : M__law_told [k, a, b, c] = .ok (.str "ended") := by simp [M__law_told, f__law_told, startE, h, hand_Ended]
theorem told_word (h : M__law_asked [k, a, b, c] = .ex "BadWord") : M__law_told [k, a, b, c] = .ok (.str "word") := by simp [M__law_told, f__law_told, startE, h, hand_Word]
theorem told_many (h : M__law_asked [k, a, b, c] = .ex "TooMany") : M__law_told [k, a, b, c] = .ok (.str "many") := by simp [M__law_told, f__law_told, startE, h, hand_Many]
theorem told_rules (h : M__law_asked [k, a, b, c] = .ex "BadRules") : M__law_told [k, a, b, c] = .ok (.str "rules") := by simp [M__law_told, f__law_told, startE, h, hand_Rules]
theorem told_row (h : M__law_asked [k, a, b, c] = .ex "BadRow") : M__law_told [k, a, b, c] = .ok (.str "row") := by simp [M__law_told, f__law_told, startE, h, hand_Row]
theorem told_count (h : M__law_asked [k, a, b, c] = .ex "BadCount") : M__law_told [k, a, b, c] = .ok (.str "count") := by simp [M__law_told, f__law_told, startE, h, hand_Count]
theorem out_call (r : Rs PyData) (ρ : En) : outD (sBind r ρ fun d => .rt d) = r := by cases r <;> rfl
theorem seq_ret (r : Rs PyData) (ρ : En) (g : DS) : Fl.seq (sBind r ρ fun d => .rt d) g = sBind r ρ fun d => .rt d := by cases r <;> rfl
theorem asked0 : M__law_asked [.int 0, a, b, c] = M_next_row [a, b] := by simp [M__law_asked, f__law_asked, startE, seq_ret, out_call]
theorem asked1 : M__law_asked [.int 1, a, b, c] = M_after [a, b, c] := by simp [M__law_asked, f__law_asked, startE, seq_ret, out_call]
theorem asked2 : M__law_asked [.int 2, a, b, c] = M_image [a, b] := by simp [M__law_asked, f__law_asked, startE, seq_ret, out_call]
theorem asked3 : M__law_asked [.int 3, a, b, c] = M_leading [a, b, c] := by simp [M__law_asked, f__law_asked, startE, seq_ret, out_call]
theorem asked4 : M__law_asked [.int 4, a, b, c] = M_course [a, b, c] := by simp [M__law_asked, f__law_asked, startE, seq_ret, out_call]
theorem asked12 : M__law_asked [.int 12, a, b, c] = M_all_parts [a, c] := by simp [M__law_asked, f__law_asked, startE, seq_ret, out_call]
theorem asked13 : M__law_asked [.int 13, a, b, c] = M_sorted_out [a, c] := by simp [M__law_asked, f__law_asked, startE, seq_ret, out_call]
end
/-! ### words of letters are not these -/
theorem Lt.ne {n : Nat} {l x : List Nat} (h : Lt n l) (hn : n ≤ 3) (hx : (x.any fun c => decide (100 ≤ c)) = true) : ¬ l = x := by
  rintro rfl
  obtain ⟨c, hc, h1⟩ := List.any_eq_true.mp hx
  have := h c hc
  simp at h1
  omega
theorem S_ended : (Str.ofString "ended") = S [101, 110, 100, 101, 100] := by decide +kernel
theorem S_word : (Str.ofString "word") = S [119, 111, 114, 100] := by decide +kernel
theorem S_count : (Str.ofString "count") = S [99, 111, 117, 110, 116] := by decide +kernel
theorem S_many : (Str.ofString "many") = S [109, 97, 110, 121] := by decide +kernel
theorem at5 {p : Int} (a b c d e : PyData) (h0 : 0 ≤ p) (h3 : p < 5) : ∃ x ∈ [a, b, c, d, e], atI [a, b, c, d, e] p = some x := by
  have : p = 0 ∨ p = 1 ∨ p = 2 ∨ p = 3 ∨ p = 4 := by omega
  rcases this with rfl | rfl | rfl | rfl | rfl
  · exact ⟨a, by simp, rfl⟩
  · exact ⟨b, by simp, rfl⟩
  · exact ⟨c, by simp, rfl⟩
  · exact ⟨d, by simp, rfl⟩
  · exact ⟨e, by simp, rfl⟩
theorem at4m {p : Int} (a b c d : PyData) (h0 : 0 ≤ p) (h3 : p < 4) : ∃ x ∈ [a, b, c, d], atI [a, b, c, d] p = some x := by
  have : p = 0 ∨ p = 1 ∨ p = 2 ∨ p = 3 := by omega
  rcases this with rfl | rfl | rfl | rfl
  · exact ⟨a, by simp, rfl⟩
  · exact ⟨b, by simp, rfl⟩
  · exact ⟨c, by simp, rfl⟩
  · exact ⟨d, by simp, rfl⟩
theorem rowOk_nil (r : Ru) : rowOk r [] := ⟨fun c hc => (nomatch hc), by simp⟩
theorem bD_eq (b : List Nat × Nat) : dEq (bD b) (bD b) = some (.bool true) := dEq_self _ (show max 0 (max 0 0) + 1 ≤ 64 by decide) (by simp [bD, PyData.eqv, PyData.eqvAll])
theorem ended_nil {r : Ru} (ok : r.Ok) : ended r [] = true := by
  have := ok.c1
  simp [ended]; omega
theorem fate_ended {r : Ru} {l : List Nat} (h : ended r l = true) (hl : l.length ≤ 120) : fateM r l = .ends 0 l := by
  show fateL r (999 + 1) [] l = _
  unfold fateL
  simp [h, hl]
theorem v_eqB (a b : Bool) : dEq (.bool a) (.bool b) = some (.bool (decide (a = b))) := by cases a <;> cases b <;> rfl
theorem v_neB (a b : Bool) : dNe (.bool a) (.bool b) = some (.bool (!decide (a = b))) := by cases a <;> cases b <;> rfl
end DL
namespace DL
open PySem PySem.Spec L2
@[simp] theorem ne_eg : ¬ (Str.ofString "ends") = Str.ofString "grows" := by decide +kernel
@[simp] theorem ne_rg : ¬ (Str.ofString "round") = Str.ofString "grows" := by decide +kernel
@[simp] theorem ne_fr : ¬ (Str.ofString "far") = Str.ofString "round" := by decide +kernel
@[simp] theorem ne_fg : ¬ (Str.ofString "far") = Str.ofString "grows" := by decide +kernel
theorem forL_step {gt : Tgt} {f : DS} {d : PyData} {ds : List PyData} {ρ ρ1 ρ2 : En} (h1 : gt d ρ = some ρ1) (h2 : f ρ1 = .nx ρ2) : forL gt f (d :: ds) ρ = forL gt f ds ρ2 := by
  simp only [forL, h1, h2]
theorem forL_stop {gt : Tgt} {f : DS} {d v : PyData} {ds : List PyData} {ρ ρ1 : En} (h1 : gt d ρ = some ρ1) (h2 : f ρ1 = .rt v) : forL gt f (d :: ds) ρ = .rt v := by
  simp only [forL, h1, h2]
theorem fateL_succ (r : Ru) (f : Nat) (rows : List (List Nat)) (row : List Nat) : fateL r (f + 1) rows row = if rows.length ≤ 200 ∧ row.length ≤ 120 then
      if ended r row then .ends rows.length row
      else if row ∈ rows then .round (rows.idxOf row) (rows.length - rows.idxOf row)
      else match partM r row with
        | some (p, k) => if 1 < k then .grows rows.length p k else fateL r f (rows ++ [row]) (next r row)
        | none => fateL r f (rows ++ [row]) (next r row)
    else .far rows.length row.length := rfl
theorem fateM_first (r : Ru) (row : List Nat) : fateM r row = if ([] : List (List Nat)).length ≤ 200 ∧ row.length ≤ 120 then
      if ended r row then .ends ([] : List (List Nat)).length row
      else if row ∈ ([] : List (List Nat)) then .round (([] : List (List Nat)).idxOf row) (([] : List (List Nat)).length - ([] : List (List Nat)).idxOf row)
      else match partM r row with
        | some (p, k) => if 1 < k then .grows ([] : List (List Nat)).length p k else fateL r 999 ([] ++ [row]) (next r row)
        | none => fateL r 999 ([] ++ [row]) (next r row)
    else .far ([] : List (List Nat)).length row.length := fateL_succ r 999 [] row
/-! ### every so manieth letter -/
theorem stepL_nil {c : Nat} (h : 1 ≤ c) : stepL c ([] : List Nat) = [] := by
  unfold stepL
  rw [show (([] : List Nat).length + c - 1) / c = 0 from Nat.div_eq_of_lt (by simp; omega)]
  rfl
theorem stepL_cons {c : Nat} (h : 1 ≤ c) (x : Nat) (l : List Nat) : stepL c (x :: l) = x :: stepL c ((x :: l).drop c) := by
  unfold stepL
  have key : ∀ L, 1 ≤ L → (L + c - 1) / c = (L - c + c - 1) / c + 1 := by
    intro L hL
    rw [show L + c - 1 = (L - 1) + c by omega, Nat.add_div_right _ (by omega)]
    by_cases q : c ≤ L
    · rw [show L - c + c - 1 = L - 1 by omega]
    · rw [show L - c + c - 1 = c - 1 by omega, Nat.div_eq_of_lt (by omega), Nat.div_eq_of_lt (by omega)]
  have e : ((x :: l).length + c - 1) / c = (((x :: l).drop c).length + c - 1) / c + 1 := by
    rw [List.length_drop]
    exact key _ (by simp)
  rw [e, List.range_succ_eq_map, List.filterMap_cons, Nat.mul_zero]
  simp only [List.getElem?_cons_zero, List.filterMap_map]
  congr 2
  funext j
  simp only [Function.comp_apply]
  rw [List.getElem?_drop, Nat.succ_eq_add_one, Nat.mul_add, Nat.mul_one, Nat.add_comm]
theorem stepL_app {c : Nat} (h : 1 ≤ c) (b : List Nat) : ∀ (n : Nat) (a : List Nat), a.length = c * n → stepL c (a ++ b) = stepL c a ++ stepL c b
  | 0, a, ha => by
    have : a = [] := List.length_eq_zero_iff.mp (by omega)
    subst this
    rw [List.nil_append, stepL_nil h, List.nil_append]
  | n + 1, [], ha => by rw [List.nil_append, stepL_nil h, List.nil_append]
  | n + 1, x :: l, ha => by
    have hl : c ≤ (x :: l).length := by rw [ha, Nat.mul_add]; omega
    rw [List.cons_append, stepL_cons h, stepL_cons h, ← List.cons_append, List.drop_append_of_le_length hl, stepL_app h b n ((x :: l).drop c) (by rw [List.length_drop, ha, Nat.mul_add]; omega)]
    rfl
section
variable {r : Ru}
theorem mod_of {c n : Nat} {a : List Nat} (h : a.length = c * n) : a.length % c = 0 := by rw [h]; simp
theorem of_mod {c : Nat} {a : List Nat} (h : a.length % c = 0) : ∃ n, a.length = c * n := ⟨a.length / c, by rw [Nat.mul_div_cancel' (Nat.dvd_of_mod_eq_zero h)]⟩
theorem whole_app (ok : r.Ok) {a b : List Nat} (ha : a.length % r.cut = 0) : whole r (a ++ b) = (whole r a && whole r b) := by
  obtain ⟨n, hn⟩ := of_mod ha
  unfold whole
  rw [stepL_app ok.c1 b n a hn, List.all_append, List.length_append]
  have : (a.length + b.length) % r.cut = b.length % r.cut := by rw [hn, Nat.mul_add_mod]
  rw [this, ha]
  cases (stepL r.cut a).all (isSomeW r) <;> cases decide (b.length % r.cut = 0) <;> simp
theorem image_app (ok : r.Ok) {a b : List Nat} (ha : a.length % r.cut = 0) : imageM r (a ++ b) = imageM r a ++ imageM r b := by
  obtain ⟨n, hn⟩ := of_mod ha
  unfold imageM
  rw [stepL_app ok.c1 b n a hn, List.flatMap_append]
theorem whole_mod {a : List Nat} (h : whole r a = true) : a.length % r.cut = 0 := by
  simp only [whole, Bool.and_eq_true, decide_eq_true_eq] at h
  exact h.1
theorem whole_nil (ok : r.Ok) : whole r [] = true := by
  unfold whole
  rw [stepL_nil ok.c1]
  simp
theorem image_nil (ok : r.Ok) : imageM r [] = [] := by
  unfold imageM
  rw [stepL_nil ok.c1]; rfl
theorem rp_succ (k : Nat) (p : List Nat) : rp (k + 1) p = p ++ rp k p := by simp [rp, List.replicate_succ]
theorem rp_add (a b : Nat) (p : List Nat) : rp (a + b) p = rp a p ++ rp b p := by
  unfold rp
  rw [← List.flatten_append, List.replicate_append_replicate]
theorem rp_rp (a b : Nat) (p : List Nat) : rp a (rp b p) = rp (a * b) p := by
  induction a with
  | zero => simp [rp]
  | succ a ih => rw [rp_succ, ih, Nat.succ_mul, Nat.add_comm, rp_add]
theorem whole_rp (ok : r.Ok) {p : List Nat} (h : whole r p = true) : ∀ k, whole r (rp k p) = true
  | 0 => whole_nil ok
  | k + 1 => by rw [rp_succ, whole_app ok (whole_mod h), h, whole_rp ok h k]; rfl
theorem image_rp (ok : r.Ok) {p : List Nat} (h : whole r p = true) : ∀ k, imageM r (rp k p) = rp k (imageM r p)
  | 0 => image_nil ok
  | k + 1 => by rw [rp_succ, image_app ok (whole_mod h), image_rp ok h k, rp_succ]
theorem len_pos {p : List Nat} (h : p ≠ []) : 0 < p.length := List.length_pos_iff.mpr h
theorem share_iff (ok : r.Ok) {p : List Nat} {k : Nat} : shareM r p = some k ↔ p ≠ [] ∧ whole r p = true ∧ imageM r p = rp k p := by
  constructor
  · intro h
    obtain ⟨a, b, c, _⟩ := shareM_le ok h
    exact ⟨a, b, c.symm⟩
  · rintro ⟨a, b, c⟩
    unfold shareM
    rw [if_neg (by rintro (z | z); exact a z; rw [b] at z; cases z)]
    unfold timesOf
    have hp := len_pos a
    have hl : (imageM r p).length = p.length * k := by rw [c, rp_len]
    have hd : (imageM r p).length / p.length = k := by rw [hl, Nat.mul_div_cancel_left _ hp]
    rw [hd, hl, if_pos ⟨by simp, c.symm⟩]
theorem rp_ne {k : Nat} {p : List Nat} (hk : 1 ≤ k) (h : p ≠ []) : rp k p ≠ [] := by
  intro z
  have := congrArg List.length z
  rw [rp_len] at this
  have := len_pos h
  have : 1 * 1 ≤ p.length * k := Nat.mul_le_mul (by omega) hk
  simp at *
  omega
theorem share_rp (ok : r.Ok) {p : List Nat} {k n : Nat} (hn : 1 ≤ n) (h : shareM r p = some k) : shareM r (rp n p) = some k := by
  obtain ⟨a, b, c⟩ := (share_iff ok).mp h
  refine (share_iff ok).mpr ⟨rp_ne hn a, whole_rp ok b n, ?_⟩
  rw [image_rp ok b, c, rp_rp, rp_rp, Nat.mul_comm]
theorem not_ended_whole (ok : r.Ok) {w rest : List Nat} (h0 : w ≠ []) (h : whole r w = true) : ended r (w ++ rest) = false ∧ ∃ x, wordOf r (w.headD 0) = some x ∧ next r (w ++ rest) = w.drop r.cut ++ rest ++ x ∧ whole r (w.drop r.cut) = true ∧ imageM r w = x ++ imageM r (w.drop r.cut) ∧ r.cut ≤ w.length := by
  have c1 := ok.c1
  cases w with
  | nil => exact absurd rfl h0
  | cons c l =>
    have hm := whole_mod h
    have hc : r.cut ≤ (c :: l).length := by
      by_cases q : r.cut ≤ (c :: l).length
      · exact q
      · rw [Nat.mod_eq_of_lt (by omega)] at hm; simp at hm
    have hs := stepL_cons c1 c l
    have hall : (stepL r.cut (c :: l)).all (isSomeW r) = true := by
      simp only [whole, Bool.and_eq_true] at h; exact h.2
    rw [hs, List.all_cons, Bool.and_eq_true] at hall
    obtain ⟨x, hx⟩ := Option.isSome_iff_exists.mp hall.1
    refine ⟨?_, x, hx, ?_, ?_, ?_, hc⟩
    · unfold ended
      rw [decide_eq_false (by rw [List.length_append]; omega), List.cons_append, List.headD_cons, hx]; rfl
    · unfold next
      rw [List.cons_append, List.headD_cons, hx, ← List.cons_append, List.drop_append_of_le_length hc]; rfl
    · unfold whole
      rw [hall.2, Bool.and_true, decide_eq_true_eq, List.length_drop, ← Nat.mod_eq_sub_mod hc]
      exact hm
    · unfold imageM
      rw [hs, List.flatMap_cons, hx]; rfl
theorem iter_whole (ok : r.Ok) : ∀ (n : Nat) (w rest : List Nat), w.length = r.cut * n → whole r w = true → iter r (w ++ rest) n = some (rest ++ imageM r w)
  | 0, w, rest, hl, _ => by
    have : w = [] := List.length_eq_zero_iff.mp (by omega)
    subst this
    rw [image_nil ok]; simp [iter]
  | n + 1, w, rest, hl, h => by
    have c1 := ok.c1
    have h0 : w ≠ [] := by
      intro z; rw [z, Nat.mul_add] at hl; simp at hl; omega
    obtain ⟨e1, x, _, e2, e3, e4, e5⟩ := not_ended_whole ok (rest := rest) h0 h
    have ei : iter r (w ++ rest) (n + 1) = if ended r (w ++ rest) then none else iter r (next r (w ++ rest)) n := rfl
    rw [ei, e1, e2]
    simp only [Bool.false_eq_true, if_false]
    rw [List.append_assoc, iter_whole ok n (w.drop r.cut) (rest ++ x) (by rw [List.length_drop, hl, Nat.mul_add]; omega) e3, e4]
    simp
end
/-! ### all words of a length; those that grow -/
def apCut : DEx := eCut (eC (.str "abc")) (oNone) (oSome (eB dLen (aCons (e2 dIx (eVar 0) (eC (.int 1))) (aNil))))
def apBody : DS := (sSeq (sOwn 4 (nLst (aNil))) (sSeq (sFor (iSeq (eVar 2)) (gN 5) (sExt 4 (grE apCut 5 6))) (sFz 4 (sAsg 2 (eVar 4)))))
theorem heads_len2 (ls : List Nat) : ∀ (n : Nat) (os : List (List Nat)), (heads ls n os).length = ls.length ^ n * os.length := heads_len ls
theorem ap_loop {r : Ru} (ok : r.Ok) (x1 x6 : Option LV) : ∀ (ks : List PyData) (os : List (List Nat)) (m : Nat) (x3 x4 x5 : Option LV), (∀ o ∈ os, o.length ≤ m) → m + ks.length ≤ 100 → os.length * 3 ^ ks.length ≤ 1000 →
    ∃ y3 y4 y5, forL (gN 3) apBody ks [some (.fz (rD r)), x1, some (.fz (.list (os.map sD))), x3, x4, x5, x6] = .nx [some (.fz (rD r)), x1, some (.fz (.list ((heads (lets r) ks.length os).map sD))), y3, y4, y5, x6]
  | [], os, m, x3, x4, x5, _, _, _ => ⟨x3, x4, x5, rfl⟩
  | k :: ks, os, m, x3, x4, x5, ho, hm, hl => by
    simp only [List.length_cons] at hm hl
    have h3 := ok.n3
    have ll := lets_len ok
    have hol : os.length ≤ 1000 := by
      have : 1 ≤ 3 ^ (ks.length + 1) := Nat.one_le_pow _ _ (by omega)
      calc os.length = os.length * 1 := by simp
        _ ≤ os.length * 3 ^ (ks.length + 1) := Nat.mul_le_mul_left _ this
        _ ≤ 1000 := hl
    obtain ⟨y, ge⟩ := grow_ext (cutE := apCut) (i := 4) (w := 5) (v := 6) (ρ := [some (.fz (rD r)), x1, some (.fz (.list (os.map sD))), some (.fz k), none, none, x6]) (ls := lets r) (fun a b => by simp [apCut, cut_abc h3, lets]) (by simp) (by simp) (by simp) (by decide) (by decide) (by omega) os [] x5 (fun o h => by have := ho o h; omega) (by simp; omega)
    simp only [List.map_nil, List.set_cons_zero, List.set_cons_succ, List.nil_append] at ge
    obtain ⟨y3, y4, y5, ih⟩ := ap_loop ok x1 x6 ks (growL (lets r) os) (m + 1) (some (.fz k)) (some (.fz (.list ((growL (lets r) os).map sD)))) y (fun o h => by
      obtain ⟨o', h1, c, _, rfl⟩ := growL_mem h
      have := ho o' h1
      simp; omega) (by omega) (by
        rw [growL_len, ll]
        calc r.ws.length * os.length * 3 ^ ks.length ≤ 3 * os.length * 3 ^ ks.length := Nat.mul_le_mul_right _ (Nat.mul_le_mul_right _ h3)
          _ = os.length * 3 ^ (ks.length + 1) := by rw [Nat.pow_succ, Nat.mul_comm 3, Nat.mul_assoc, Nat.mul_comm 3]
          _ ≤ 1000 := hl)
    refine ⟨y3, y4, y5, ?_⟩
    have eh : heads (lets r) (k :: ks).length os = heads (lets r) ks.length (growL (lets r) os) := rfl
    rw [eh, ← ih]
    have z : (0 : Nat) ≤ sizeLine := Nat.zero_le _
    refine forL_step rfl ?_
    simp [apBody, ge]
def wordsN (r : Ru) (n : Nat) : List (List Nat) := heads (lets r) n [[]]
def partsL (r : Ru) (n : Nat) : List (List Nat × Nat) := (wordsN r n).filterMap fun w => (shareM r w).map fun k => (w, k)
theorem wordsN_mem {r : Ru} (ok : r.Ok) {n : Nat} {w : List Nat} (h : w ∈ wordsN r n) : w.length = n ∧ Lt r.ws.length w := by
  obtain ⟨o, h1, t, h2, h3, rfl⟩ := heads_mem h
  simp at h1
  subst h1
  exact ⟨by simpa using h2, fun c hc => (mem_lets ok).mp (h3 c (by simpa using hc))⟩
theorem partsL_mem {r : Ru} (ok : r.Ok) {n : Nat} {p : List Nat × Nat} (h : p ∈ partsL r n) : p.1.length = n ∧ Lt r.ws.length p.1 ∧ shareM r p.1 = some p.2 := by
  obtain ⟨w, h1, h2⟩ := List.mem_filterMap.mp h
  obtain ⟨a, b⟩ := wordsN_mem ok h1
  cases q : shareM r w with
  | none => rw [q] at h2; cases h2
  | some k => rw [q] at h2; cases h2; exact ⟨a, b, q⟩
theorem M_all_parts_eq {r : Ru} (ok : r.Ok) {n : Nat} (h1 : 1 ≤ n) (h6 : n ≤ 6) : M_all_parts [rD r, .int n] = .ok (.list ((partsL r n).map bD)) := by
  have hw : M_is_within [.int n, .int 1, .int 6] = .ok (.bool true) := within_yes (by omega)
  have hr : inR (n : Int) = true := inR_of (by omega) (by omega)
  have z1 : 1 ≤ sizeLine := size1 (by omega)
  have z2 : 2 ≤ sizeLine := size1 (by omega)
  have h3 := ok.n3
  have hp6 : 3 ^ n ≤ 3 ^ 6 := Nat.pow_le_pow_right (by decide) h6
  obtain ⟨y3, y4, y5, lp⟩ := ap_loop ok (some (.fz (.int n))) none (rangeD 0 n) [[]] 0 none none none (by simp) (by rw [rangeD_len]; omega) (by rw [rangeD_len]; simp; omega)
  rw [rangeD_len] at lp
  simp only [List.map_cons, List.map_nil] at lp
  have wl : (wordsN r n).length ≤ 1000 := by
    unfold wordsN
    rw [heads_len, lets_len ok]
    have : r.ws.length ^ n ≤ 3 ^ n := Nat.pow_le_pow_left h3 _
    simp; omega
  have zw : (wordsN r n).length ≤ sizeLine := size1 (by omega)
  have mem := fun w (h : w ∈ wordsN r n) => wordsN_mem ok h
  have e : M_all_parts [rD r, .int n] = outD (Fl.seq (forL (gN 3) apBody (rangeD 0 n) [some (.fz (rD r)), some (.fz (.int n)), some (.fz (.list [sD []])), none, none, none, none]) (sRet (eFz (nLc [5] (iSeq (eVar 2)) (gN 5) (t2 dIsNot (eCall 2 M_share (aCons (eVar 0) (aCons (eVar 5) (aNil)))) (eC .none)) (eTup (aCons (eVar 5) (aCons (eCall 2 M_share (aCons (eVar 0) (aCons (eVar 5) (aNil)))) (aNil)))))))) := by
    simp [M_all_parts, f_all_parts, startE, M_look_ok ok, hw, z1, hr, S_nil, apBody, grE, apCut]
  rw [e, lp, seq_nx]
  have lc : lcL (gN 5) (t2 dIsNot (eCall 2 M_share (aCons (eVar 0) (aCons (eVar 5) (aNil)))) (eC .none)) (eTup (aCons (eVar 5) (aCons (eCall 2 M_share (aCons (eVar 0) (aCons (eVar 5) (aNil)))) (aNil)))) [some (.fz (rD r)), some (.fz (.int n)), some (.fz (.list ((wordsN r n).map sD))), y3, y4, none, none] ((wordsN r n).map sD) = .ok (((wordsN r n).filter fun w => (shareM r w).isSome).map fun w => .tuple [sD w, oD (shareM r w)]) := by
    refine lcL_map _ _ _ _ fun w hw => ?_
    have hs := M_share_eq ok (mem w hw).2 (by rw [(mem w hw).1]; omega)
    constructor
    · cases q : shareM r w <;> rw [q] at hs <;> simp [hs, oD]
    · intro _
      simp [hs, z2]
  have ep : ((wordsN r n).filter fun w => (shareM r w).isSome).map (fun w => PyData.tuple [sD w, oD (shareM r w)]) = (partsL r n).map bD := by
    unfold partsL
    generalize wordsN r n = ws
    induction ws with
    | nil => rfl
    | cons w ws ih =>
      rw [List.filter_cons, List.filterMap_cons]
      cases q : shareM r w with
      | none => simpa [q] using ih
      | some k => simp [q, bD, oD]; exact ih
  rw [ep] at lc
  have hw2 : heads (lets r) n [[]] = wordsN r n := rfl
  rw [hw2]
  simp [zw, lc]
end DL
namespace DL
open PySem PySem.Spec L2
def f_look_both : DS := sSeq (sExpr (eCall 1 M_look (aCons (eVar 0) (aNil)))) (sSeq (sExpr (eCall 1 M_look (aCons (eVar 1) (aNil)))) (sIf (t2 dNe (eB dLen (aCons (e2 dIx (eVar 0) (eC (.int 1))) (aNil))) (eB dLen (aCons (e2 dIx (eVar 1) (eC (.int 1))) (aNil)))) (sRaise "BadRules") (sNil)))
def M_look_both : List D → Rs D := fun ds => outD (f_look_both (startE 2 ds))

def f_comes : DS := sRet (eIf (tTru (eCall 2 M_has_ended (aCons (eVar 0) (aCons (eVar 1) (aNil))))) (eC .none) (eCall 2 M_next_of (aCons (eVar 0) (aCons (eVar 1) (aNil)))))
def M_comes : List D → Rs D := fun ds => outD (f_comes (startE 2 ds))

def f_first_unlike : DS := sSeq (sExpr (eCall 2 M_look_both (aCons (eVar 0) (aCons (eVar 1) (aNil))))) (sSeq (sIf (tNot (tTru (eCall 3 M_is_within (aCons (eVar 2) (aCons (eC (.int 0)) (aCons (eC (.int 6)) (aNil))))))) (sRaise "BadCount") (sNil)) (sSeq (sFor (iSeq (eCall 2 M_words_to (aCons (eB dLen (aCons (e2 dIx (eVar 0) (eC (.int 1))) (aNil))) (aCons (eVar 2) (aNil))))) (gN 3) (sIf (t2 dNe (eCall 2 M_comes (aCons (eVar 0) (aCons (eVar 3) (aNil)))) (eCall 2 M_comes (aCons (eVar 1) (aCons (eVar 3) (aNil))))) (sRet (eVar 3)) (sNil))) (sRet (eC .none))))
def M_first_unlike : List D → Rs D := fun ds => outD (f_first_unlike (startE 4 ds))

def f_first_other_fate : DS := sSeq (sExpr (eCall 2 M_look_both (aCons (eVar 0) (aCons (eVar 1) (aNil))))) (sSeq (sIf (tNot (tTru (eCall 3 M_is_within (aCons (eVar 2) (aCons (eC (.int 0)) (aCons (eC (.int 3)) (aNil))))))) (sRaise "BadCount") (sNil)) (sSeq (sFor (iSeq (eCall 2 M_words_to (aCons (eB dLen (aCons (e2 dIx (eVar 0) (eC (.int 1))) (aNil))) (aCons (eVar 2) (aNil))))) (gN 3) (sIf (t2 dNe (e2 dIx (eCall 2 M_fate_of (aCons (eVar 0) (aCons (eVar 3) (aNil)))) (eC (.int 0))) (e2 dIx (eCall 2 M_fate_of (aCons (eVar 1) (aCons (eVar 3) (aNil)))) (eC (.int 0)))) (sRet (eVar 3)) (sNil))) (sRet (eC .none))))
def M_first_other_fate : List D → Rs D := fun ds => outD (f_first_other_fate (startE 4 ds))

def f_apart_behind : DS := sSeq (sExpr (eCall 2 M_look_both (aCons (eVar 0) (aCons (eVar 1) (aNil))))) (sSeq (sExpr (eCall 2 M_look_row (aCons (eVar 0) (aCons (eVar 2) (aNil))))) (sSeq (sIf (tNot (tTru (eCall 3 M_is_within (aCons (eVar 3) (aCons (eC (.int 0)) (aCons (eC (.int 200)) (aNil))))))) (sRaise "BadCount") (sNil)) (sSeq (sAsg 4 (eVar 2)) (sSeq (sFor (iR2 (aCons (eC (.int 1)) (aCons (e2 dAdd (eVar 3) (eC (.int 1))) (aNil)))) (gN 5) (sSeq (sAsg 2 (eCall 2 M_comes (aCons (eVar 0) (aCons (eVar 2) (aNil))))) (sSeq (sAsg 4 (eCall 2 M_comes (aCons (eVar 1) (aCons (eVar 4) (aNil))))) (sSeq (sIf (t2 dNe (eVar 2) (eVar 4)) (sRet (eVar 5)) (sNil)) (sIf (t2 dIs (eVar 2) (eC .none)) (sRet (eC .none)) (sNil)))))) (sRet (eC .none))))))
def M_apart_behind : List D → Rs D := fun ds => outD (f_apart_behind (startE 6 ds))

def f__law_other : DS := sSeq (sAsg 3 (eCall 2 M__law_seed (aCons (eCall 2 M__law_cell (aCons (eVar 0) (aCons (eVar 1) (aNil)))) (aCons (eC (.int 3)) (aNil))))) (sSeq (sAsg 4 (eB dLen (aCons (e2 dIx (eVar 2) (eC (.int 1))) (aNil)))) (sSeq (sOwn 5 (nB dList (aCons (e2 dIx (eVar 2) (eC (.int 1))) (aNil)))) (sSeq (sFor (iR1 (aCons (eCall 2 M__law_pick (aCons (eCall 2 M__law_seed (aCons (eVar 3) (aCons (eC (.int 1)) (aNil)))) (aCons (eC (.int 3)) (aNil)))) (aNil))) (gN 6) (sSeq (sAsg 7 (eCall 2 M__law_seed (aCons (eVar 3) (aCons (e2 dAdd (eC (.int 2)) (eVar 6)) (aNil))))) (sSeq (sAsg 8 (eCall 3 M__law_letters (aCons (eCall 2 M__law_seed (aCons (eVar 7) (aCons (eC (.int 1)) (aNil)))) (aCons (eVar 4) (aCons (eCall 2 M__law_pick (aCons (eCall 2 M__law_seed (aCons (eVar 7) (aCons (eC (.int 2)) (aNil)))) (aCons (eC (.int 5)) (aNil)))) (aNil)))))) (sSetI 5 (eCall 2 M__law_pick (aCons (eCall 2 M__law_seed (aCons (eVar 7) (aCons (eC (.int 3)) (aNil)))) (aCons (eVar 4) (aNil)))) (eIf (t2 dEq (e2 dMod (e2 dDiv (eVar 7) (eC (.int 7))) (eC (.int 7))) (eC (.int 0))) (eC .none) (eVar 8)))))) (sRet (eTup (aCons (eIf (t2 dEq (e2 dMod (e2 dDiv (eVar 3) (eC (.int 11))) (eC (.int 4))) (eC (.int 0))) (e2 dAdd (eC (.int 1)) (eCall 2 M__law_pick (aCons (eCall 2 M__law_seed (aCons (eVar 3) (aCons (eC (.int 9)) (aNil)))) (aCons (eC (.int 3)) (aNil))))) (e2 dIx (eVar 2) (eC (.int 0)))) (aCons (eB dTuple (aCons (eVarB 5) (aNil))) (aNil))))))))
def M__law_other : List D → Rs D := fun ds => outD (f__law_other (startE 9 ds))

end DL
namespace DL
open PySem PySem.Spec L2
/-! ### all words up to a length -/
def letsN (n : Nat) : List Nat := [97, 98, 99].take n
theorem letsN_len {n : Nat} (h : n ≤ 3) : (letsN n).length = n := by simp [letsN]; omega
theorem mem_letsN {n c : Nat} (h : n ≤ 3) : c ∈ letsN n ↔ 97 ≤ c ∧ c < 97 + n := mem_abc h
def upL (ls : List Nat) : Nat → List (List Nat) → List (List Nat)
  | 0, _ => []
  | n + 1, os => growL ls os ++ upL ls n (growL ls os)
def upTo (m n : Nat) : List (List Nat) := [] :: upL (letsN m) n [[]]
theorem mem_heads {ls : List Nat} : ∀ (n : Nat) (os : List (List Nat)) (o t : List Nat), o ∈ os → t.length = n → (∀ c ∈ t, c ∈ ls) → o ++ t ∈ heads ls n os
  | 0, os, o, t, ho, ht, _ => by
    have : t = [] := List.length_eq_zero_iff.mp ht
    subst this
    rw [List.append_nil]; exact ho
  | n + 1, os, o, [], ho, ht, _ => by simp at ht
  | n + 1, os, o, c :: t, ho, ht, hc => by
    have e : o ++ c :: t = (o ++ [c]) ++ t := by simp
    rw [e]
    refine mem_heads n (growL ls os) (o ++ [c]) t ?_ (by simpa using ht) fun d hd => hc d (by simp [hd])
    exact List.mem_flatMap.mpr ⟨o, ho, List.mem_map.mpr ⟨c, hc c (by simp), rfl⟩⟩
theorem upL_heads (ls : List Nat) : ∀ (n : Nat) (os : List (List Nat)) (x : List Nat), x ∈ upL ls n os ↔ ∃ k, 1 ≤ k ∧ k ≤ n ∧ x ∈ heads ls k os
  | 0, os, x => by
    constructor
    · intro h; cases h
    · rintro ⟨k, h1, h2, _⟩; omega
  | n + 1, os, x => by
    rw [upL, List.mem_append, upL_heads ls n]
    constructor
    · rintro (h | ⟨k, h1, h2, h3⟩)
      · exact ⟨1, by omega, by omega, h⟩
      · exact ⟨k + 1, by omega, by omega, h3⟩
    · rintro ⟨k, h1, h2, h3⟩
      obtain ⟨j, rfl⟩ : ∃ j, k = j + 1 := ⟨k - 1, by omega⟩
      by_cases hj : j = 0
      · subst hj; exact .inl h3
      · exact .inr ⟨j, by omega, by omega, h3⟩
theorem mem_upTo {m n : Nat} (hm : m ≤ 3) {x : List Nat} : x ∈ upTo m n ↔ Lt m x ∧ x.length ≤ n := by
  unfold upTo
  rw [List.mem_cons, upL_heads]
  constructor
  · rintro (rfl | ⟨k, h1, h2, h3⟩)
    · exact ⟨fun c hc => (nomatch hc), by simp⟩
    · obtain ⟨o, ho, t, ht, hc, rfl⟩ := heads_mem h3
      simp at ho
      subst ho
      exact ⟨fun c h => (mem_letsN hm).mp (hc c (by simpa using h)), by simp; omega⟩
  · rintro ⟨h1, h2⟩
    cases x with
    | nil => exact .inl rfl
    | cons c l =>
      refine .inr ⟨(c :: l).length, by simp, h2, ?_⟩
      have := mem_heads (ls := letsN m) (c :: l).length [[]] [] (c :: l) (by simp) rfl fun d hd => (mem_letsN hm).mpr (h1 d hd)
      simpa using this
theorem upL_add (ls : List Nat) : ∀ (a b : Nat) (os : List (List Nat)), ∃ more, upL ls (a + b) os = upL ls a os ++ more
  | 0, b, os => ⟨_, by rw [Nat.zero_add]; rfl⟩
  | a + 1, b, os => by
    obtain ⟨m, e⟩ := upL_add ls a b (growL ls os)
    refine ⟨m, ?_⟩
    rw [show a + 1 + b = (a + b) + 1 by omega, upL, e, upL, List.append_assoc]
theorem upTo_add (m a b : Nat) : ∃ more, upTo m (a + b) = upTo m a ++ more := by
  obtain ⟨x, e⟩ := upL_add (letsN m) a b [[]]
  exact ⟨x, by unfold upTo; rw [e]; rfl⟩
def sz : Nat → Nat
  | 0 => 0
  | n + 1 => 3 + 3 * sz n
theorem sz_le {n : Nat} (h : n ≤ 6) : sz n ≤ 1092 := by
  have : n = 0 ∨ n = 1 ∨ n = 2 ∨ n = 3 ∨ n = 4 ∨ n = 5 ∨ n = 6 := by omega
  rcases this with rfl | rfl | rfl | rfl | rfl | rfl | rfl <;> decide
theorem upL_len {ls : List Nat} (h3 : ls.length ≤ 3) : ∀ (n : Nat) (os : List (List Nat)), (upL ls n os).length ≤ os.length * sz n
  | 0, os => by simp [upL]
  | n + 1, os => by
    rw [upL, List.length_append]
    have h1 := upL_len h3 n (growL ls os)
    rw [growL_len] at h1 ⊢
    have h2 : ls.length * os.length ≤ 3 * os.length := Nat.mul_le_mul_right _ h3
    have h4 : ls.length * os.length * sz n ≤ 3 * os.length * sz n := Nat.mul_le_mul_right _ h2
    have h5 : os.length * sz (n + 1) = 3 * os.length + 3 * os.length * sz n := by
      rw [sz, Nat.mul_add, Nat.mul_comm os.length 3, ← Nat.mul_assoc, Nat.mul_comm os.length 3]
    omega
theorem upTo_len {m n : Nat} (hm : m ≤ 3) (hn : n ≤ 6) : (upTo m n).length ≤ 1093 := by
  unfold upTo
  have := upL_len (ls := letsN m) (by rw [letsN_len hm]; exact hm) n [[]]
  have := sz_le hn
  simp at *
  omega
def wtCut : DEx := eCut (eC (.str "abc")) (oNone) (oSome (eVar 0))
def wtBody : DS := (sSeq (sOwn 5 (nLst (aNil))) (sSeq (sFor (iSeq (eVar 3)) (gN 6) (sExt 5 (grE wtCut 6 7))) (sSeq (sFz 5 (sAsg 3 (eVar 5))) (sExt 2 (eVar 3)))))
theorem wt_loop {m : Nat} (hm : m ≤ 3) (x1 x7 : Option LV) : ∀ (ks : List PyData) (acc os : List (List Nat)) (q : Nat) (x4 x5 x6 : Option LV), (∀ o ∈ os, o.length ≤ q) → q + ks.length ≤ 100 → acc.length + os.length * sz ks.length ≤ 2000 →
    ∃ y3 y4 y5 y6, forL (gN 4) wtBody ks [some (.fz (.int m)), x1, some (.own (acc.map sD)), some (.fz (.list (os.map sD))), x4, x5, x6, x7] = .nx [some (.fz (.int m)), x1, some (.own ((acc ++ upL (letsN m) ks.length os).map sD)), y3, y4, y5, y6, x7]
  | [], acc, os, q, x4, x5, x6, _, _, _ => ⟨some (.fz (.list (os.map sD))), x4, x5, x6, by simp [forL, upL]⟩
  | k :: ks, acc, os, q, x4, x5, x6, ho, hq, hl => by
    simp only [List.length_cons, sz] at hq hl
    have ll := letsN_len hm
    have hz0 : os.length * (3 + 3 * sz ks.length) = 3 * os.length + 3 * os.length * sz ks.length := by
      rw [Nat.mul_add, Nat.mul_comm os.length 3, ← Nat.mul_assoc, Nat.mul_comm os.length 3]
    rw [hz0] at hl
    obtain ⟨y, ge⟩ := grow_ext (cutE := wtCut) (i := 5) (w := 6) (v := 7) (ρ := [some (.fz (.int m)), x1, some (.own (acc.map sD)), some (.fz (.list (os.map sD))), some (.fz k), none, none, x7]) (ls := letsN m) (fun a b => by simp [wtCut, cut_abc hm, letsN]) (by simp) (by simp) (by simp) (by decide) (by decide) (by omega) os [] x6 (fun o h => by have := ho o h; omega) (by simp; omega)
    simp only [List.map_nil, List.set_cons_zero, List.set_cons_succ, List.nil_append] at ge
    have hg : (growL (letsN m) os).length ≤ 3 * os.length := by rw [growL_len, ll]; exact Nat.mul_le_mul_right _ hm
    have hg2 : (growL (letsN m) os).length * sz ks.length ≤ 3 * os.length * sz ks.length := Nat.mul_le_mul_right _ hg
    obtain ⟨y3, y4, y5, y6, ih⟩ := wt_loop hm x1 x7 ks (acc ++ growL (letsN m) os) (growL (letsN m) os) (q + 1) (some (.fz k)) (some (.fz (.list ((growL (letsN m) os).map sD)))) y (fun o h => by
      obtain ⟨o', h1, c, _, rfl⟩ := growL_mem h
      have := ho o' h1
      simp; omega) (by omega) (by rw [List.length_append]; omega)
    refine ⟨y3, y4, y5, y6, ?_⟩
    have eu : acc ++ upL (letsN m) (k :: ks).length os = acc ++ growL (letsN m) os ++ upL (letsN m) ks.length (growL (letsN m) os) := by
      rw [List.append_assoc]; rfl
    rw [eu, ← ih]
    have hz : acc.length + (growL (letsN m) os).length ≤ sizeLine := size1 (by omega)
    refine forL_step rfl ?_
    simp [wtBody, ge, hz]
theorem M_words_to_eq {m n : Nat} (hm : m ≤ 3) (hn : n ≤ 6) : M_words_to [.int m, .int n] = .ok (.list ((upTo m n).map sD)) := by
  have hr : inR (n : Int) = true := inR_of (by omega) (by omega)
  have z1 : 1 ≤ sizeLine := size1 (by omega)
  have := sz_le hn
  obtain ⟨y3, y4, y5, y6, lp⟩ := wt_loop hm (some (.fz (.int n))) none (rangeD 0 n) [[]] [[]] 0 none none none (by simp) (by rw [rangeD_len]; omega) (by rw [rangeD_len]; simp; omega)
  rw [rangeD_len] at lp
  have e : M_words_to [.int m, .int n] = outD (Fl.seq (forL (gN 4) wtBody (rangeD 0 n) [some (.fz (.int m)), some (.fz (.int n)), some (.own ([[]].map sD)), some (.fz (.list ([[]].map sD))), none, none, none, none]) (sFz 2 (sRet (eVar 2)))) := by
    simp [M_words_to, f_words_to, startE, z1, hr, S_nil, wtBody, grE, wtCut]
  rw [e, lp]
  simp [upTo]
/-! ### what comes of a row; two rules -/
def comesM (r : Ru) (l : List Nat) : Option (List Nat) := if ended r l then none else some (next r l)
theorem M_comes_eq {r : Ru} (ok : r.Ok) {l : List Nat} (h : Lt r.ws.length l) (hl : l.length ≤ 1000000) : M_comes [rD r, sD l] = .ok (wD (comesM r l)) := by
  have he := M_has_ended_eq ok h
  unfold comesM
  cases q : ended r l with
  | true => rw [q] at he; simp [M_comes, f_comes, startE, he, wD]
  | false => rw [q] at he; simp [M_comes, f_comes, startE, he, M_next_of_eq ok h q (by omega), wD]
theorem M_look_both_ok {r o : Ru} (ok : r.Ok) (oo : o.Ok) (h : r.ws.length = o.ws.length) : M_look_both [rD r, rD o] = .ok .none := by
  simp [M_look_both, f_look_both, startE, M_look_ok ok, M_look_ok oo, h]
theorem wD_ne (a b : Option (List Nat)) : dNe (wD a) (wD b) = some (.bool (!decide (a = b))) := by
  cases a with
  | none => cases b <;> rfl
  | some x =>
    cases b with
    | none => rfl
    | some y => simp [wD]
theorem wD_eq (a b : Option (List Nat)) : dEq (wD a) (wD b) = some (.bool (decide (a = b))) := by
  cases a with
  | none => cases b <;> rfl
  | some x =>
    cases b with
    | none => rfl
    | some y => simp [wD]
def unl (r o : Ru) (w : List Nat) : Bool := !decide (comesM r w = comesM o w)
def fuBody : DS := (sIf (t2 dNe (eCall 2 M_comes (aCons (eVar 0) (aCons (eVar 3) (aNil)))) (eCall 2 M_comes (aCons (eVar 1) (aCons (eVar 3) (aNil))))) (sRet (eVar 3)) (sNil))
theorem fu_loop {r o : Ru} (ok : r.Ok) (oo : o.Ok) (hro : r.ws.length = o.ws.length) (x2 : Option LV) : ∀ (ws : List (List Nat)) (x3 : Option LV), (∀ w ∈ ws, Lt r.ws.length w ∧ w.length ≤ 100) →
    Fl.seq (forL (gN 3) fuBody (ws.map sD) [some (.fz (rD r)), some (.fz (rD o)), x2, x3]) (sRet (eC .none)) = .rt (wD (ws.find? (unl r o)))
  | [], x3, _ => by simp [forL, wD]
  | w :: ws, x3, h => by
    obtain ⟨h1, h2⟩ := h w (by simp)
    have c1 := M_comes_eq ok h1 (by omega)
    have c2 := M_comes_eq oo (hro ▸ h1) (by omega)
    rw [List.map_cons, List.find?_cons]
    cases q : unl r o w with
    | true =>
      have q' : ¬ comesM r w = comesM o w := by simpa [unl] using q
      rw [forL_stop (ρ1 := [some (.fz (rD r)), some (.fz (rD o)), x2, some (.fz (sD w))]) rfl (by simp [fuBody, c1, c2, wD_ne, q']; rfl)]
      rfl
    | false =>
      have q' : comesM r w = comesM o w := by simpa [unl] using q
      rw [forL_step (ρ1 := [some (.fz (rD r)), some (.fz (rD o)), x2, some (.fz (sD w))]) (ρ2 := [some (.fz (rD r)), some (.fz (rD o)), x2, some (.fz (sD w))]) rfl (by simp [fuBody, c1, c2, wD_ne, q'])]
      exact fu_loop ok oo hro x2 ws (some (.fz (sD w))) fun w h' => h w (by simp [h'])
theorem M_first_unlike_eq {r o : Ru} (ok : r.Ok) (oo : o.Ok) (hro : r.ws.length = o.ws.length) {n : Nat} (hn : n ≤ 6) : M_first_unlike [rD r, rD o, .int n] = .ok (wD ((upTo r.ws.length n).find? (unl r o))) := by
  have hw : M_is_within [.int n, .int 0, .int 6] = .ok (.bool true) := within_yes (by omega)
  have mw := M_words_to_eq (m := r.ws.length) ok.n3 hn
  have lp := fu_loop ok oo hro (some (.fz (.int n))) (upTo r.ws.length n) none fun w h => by
    have := (mem_upTo ok.n3).mp h
    exact ⟨this.1, by omega⟩
  have e : M_first_unlike [rD r, rD o, .int n] = outD (Fl.seq (forL (gN 3) fuBody ((upTo r.ws.length n).map sD) [some (.fz (rD r)), some (.fz (rD o)), some (.fz (.int n)), none]) (sRet (eC .none))) := by
    simp [M_first_unlike, f_first_unlike, startE, M_look_both_ok ok oo hro, hw, mw, fuBody]
  rw [e, lp]; rfl
/-! ### fates by their words -/
def kindS : Fate → Str
  | .ends _ _ => "ends"
  | .round _ _ => "round"
  | .grows _ _ _ => "grows"
  | .far _ _ => "far"
theorem fD_0 (f : Fate) : dIx (fD f) (.int 0) = some (.str (kindS f)) := by cases f <;> simp [fD, kindS]
def unf (r o : Ru) (w : List Nat) : Bool := !decide (kindS (fateM r w) = kindS (fateM o w))
def foB : DS := (sIf (t2 dNe (e2 dIx (eCall 2 M_fate_of (aCons (eVar 0) (aCons (eVar 3) (aNil)))) (eC (.int 0))) (e2 dIx (eCall 2 M_fate_of (aCons (eVar 1) (aCons (eVar 3) (aNil)))) (eC (.int 0)))) (sRet (eVar 3)) (sNil))
theorem foB_loop {r o : Ru} (ok : r.Ok) (oo : o.Ok) (hro : r.ws.length = o.ws.length) (x2 : Option LV) : ∀ (ws : List (List Nat)) (x3 : Option LV), (∀ w ∈ ws, Lt r.ws.length w ∧ w.length ≤ 100) →
    Fl.seq (forL (gN 3) foB (ws.map sD) [some (.fz (rD r)), some (.fz (rD o)), x2, x3]) (sRet (eC .none)) = .rt (wD (ws.find? (unf r o)))
  | [], x3, _ => by simp [forL, wD]
  | w :: ws, x3, h => by
    obtain ⟨h1, h2⟩ := h w (by simp)
    have c1 := M_fate_of_eq ok h1 (by omega)
    have c2 := M_fate_of_eq oo (hro ▸ h1) (by omega)
    have f1 := fD_0 (fateM r w)
    have f2 := fD_0 (fateM o w)
    rw [List.map_cons, List.find?_cons]
    cases q : unf r o w with
    | true =>
      have q' : ¬ kindS (fateM r w) = kindS (fateM o w) := by simpa [unf] using q
      rw [forL_stop (ρ1 := [some (.fz (rD r)), some (.fz (rD o)), x2, some (.fz (sD w))]) rfl (by simp [foB, c1, c2, f1, f2, q']; rfl)]
      rfl
    | false =>
      have q' : kindS (fateM r w) = kindS (fateM o w) := by simpa [unf] using q
      rw [forL_step (ρ1 := [some (.fz (rD r)), some (.fz (rD o)), x2, some (.fz (sD w))]) (ρ2 := [some (.fz (rD r)), some (.fz (rD o)), x2, some (.fz (sD w))]) rfl (by simp [foB, c1, c2, f1, f2, q'])]
      exact foB_loop ok oo hro x2 ws (some (.fz (sD w))) fun w h' => h w (by simp [h'])
theorem M_first_other_eq {r o : Ru} (ok : r.Ok) (oo : o.Ok) (hro : r.ws.length = o.ws.length) {n : Nat} (hn : n ≤ 3) : M_first_other_fate [rD r, rD o, .int n] = .ok (wD ((upTo r.ws.length n).find? (unf r o))) := by
  have hw : M_is_within [.int n, .int 0, .int 3] = .ok (.bool true) := within_yes (by omega)
  have mw := M_words_to_eq (m := r.ws.length) ok.n3 (n := n) (by omega)
  have lp := foB_loop ok oo hro (some (.fz (.int n))) (upTo r.ws.length n) none fun w h => by
    have := (mem_upTo ok.n3).mp h
    exact ⟨this.1, by omega⟩
  have e : M_first_other_fate [rD r, rD o, .int n] = outD (Fl.seq (forL (gN 3) foB ((upTo r.ws.length n).map sD) [some (.fz (rD r)), some (.fz (rD o)), some (.fz (.int n)), none]) (sRet (eC .none))) := by
    simp [M_first_other_fate, f_first_other_fate, startE, M_look_both_ok ok oo hro, hw, mw, foB]
  rw [e, lp]; rfl
/-! ### behind how many cuts -/
def apL (r o : Ru) : Nat → Nat → List Nat → Option Nat
  | 0, _, _ => none
  | n + 1, t, x => if comesM r x = comesM o x then match comesM r x with
      | none => none
      | some y => apL r o n (t + 1) y
    else some t
def abBody : DS := (sSeq (sAsg 2 (eCall 2 M_comes (aCons (eVar 0) (aCons (eVar 2) (aNil))))) (sSeq (sAsg 4 (eCall 2 M_comes (aCons (eVar 1) (aCons (eVar 4) (aNil))))) (sSeq (sIf (t2 dNe (eVar 2) (eVar 4)) (sRet (eVar 5)) (sNil)) (sIf (t2 dIs (eVar 2) (eC .none)) (sRet (eC .none)) (sNil)))))
theorem comes_lt {r : Ru} (ok : r.Ok) {x y : List Nat} (h : Lt r.ws.length x) (e : comesM r x = some y) : Lt r.ws.length y ∧ y.length ≤ x.length + 4 := by
  unfold comesM at e
  split at e
  · cases e
  · cases e; exact ⟨h.next ok, next_len ok x⟩
theorem ab_loop {r o : Ru} (ok : r.Ok) (oo : o.Ok) (hro : r.ws.length = o.ws.length) (x3 : Option LV) : ∀ (n t : Nat) (x : List Nat) (x5 : Option LV), Lt r.ws.length x → x.length + 4 * n ≤ 100000 →
    Fl.seq (forL (gN 5) abBody ((List.range' t n).map fun k => PyData.int (k : Nat)) [some (.fz (rD r)), some (.fz (rD o)), some (.fz (sD x)), x3, some (.fz (sD x)), x5]) (sRet (eC .none)) = .rt (oD (apL r o n t x))
  | 0, t, x, x5, _, _ => by simp [forL, apL, oD]
  | n + 1, t, x, x5, h, hl => by
    have c1 := M_comes_eq ok h (by omega)
    have c2 := M_comes_eq oo (hro ▸ h) (by omega)
    rw [List.range'_succ, List.map_cons, apL]
    by_cases q : comesM r x = comesM o x
    · rw [if_pos q]
      cases q2 : comesM r x with
      | none =>
        rw [q2] at c1 q
        rw [← q] at c2
        rw [forL_stop (ρ1 := [some (.fz (rD r)), some (.fz (rD o)), some (.fz (sD x)), x3, some (.fz (sD x)), some (.fz (.int t))]) rfl (by simp [abBody, c1, c2, wD, show dNe .none .none = some (.bool false) from rfl]; rfl)]
        rfl
      | some y =>
        rw [q2] at c1 q
        rw [← q] at c2
        have hy := comes_lt ok h q2
        rw [forL_step (ρ1 := [some (.fz (rD r)), some (.fz (rD o)), some (.fz (sD x)), x3, some (.fz (sD x)), some (.fz (.int t))]) (ρ2 := [some (.fz (rD r)), some (.fz (rD o)), some (.fz (sD y)), x3, some (.fz (sD y)), some (.fz (.int t))]) rfl (by simp [abBody, c1, c2, wD])]
        exact ab_loop ok oo hro x3 n (t + 1) y (some (.fz (.int t))) hy.1 (by omega)
    · rw [if_neg q]
      have ne := wD_ne (comesM r x) (comesM o x)
      rw [decide_eq_false q] at ne
      rw [forL_stop (ρ1 := [some (.fz (rD r)), some (.fz (rD o)), some (.fz (sD x)), x3, some (.fz (sD x)), some (.fz (.int t))]) rfl (by simp [abBody, c1, c2, ne]; rfl)]
      rfl
theorem M_apart_eq {r o : Ru} (ok : r.Ok) (oo : o.Ok) (hro : r.ws.length = o.ws.length) {x : List Nat} (h : rowOk r x) {n : Nat} (hn : n ≤ 200) : M_apart_behind [rD r, rD o, sD x, .int n] = .ok (oD (apL r o n 1 x)) := by
  have h24 := h.2
  have hw : M_is_within [.int n, .int 0, .int 200] = .ok (.bool true) := within_yes (by omega)
  have hr1 : inR 1 = true := by decide
  have hr2 : inR ((n : Int) + 1) = true := inR_of (by omega) (by omega)
  have et : ((n : Int) + 1 - 1).toNat = n := by omega
  have lp := ab_loop ok oo hro (some (.fz (.int n))) n 1 x none h.1 (by omega)
  rw [range'_one, ← rangeD_one] at lp
  have e : M_apart_behind [rD r, rD o, sD x, .int n] = outD (Fl.seq (forL (gN 5) abBody (rangeD 1 n) [some (.fz (rD r)), some (.fz (rD o)), some (.fz (sD x)), some (.fz (.int n)), some (.fz (sD x)), none]) (sRet (eC .none))) := by
    simp [M_apart_behind, f_apart_behind, startE, M_look_both_ok ok oo hro, M_look_row_ok ok h, hw, hr1, hr2, et, abBody]
  rw [e, lp]; rfl
theorem apL_self (r : Ru) : ∀ (n t : Nat) (x : List Nat), apL r r n t x = none
  | 0, _, _ => rfl
  | n + 1, t, x => by
    rw [apL, if_pos rfl]
    cases comesM r x with
    | none => rfl
    | some y => exact apL_self r n (t + 1) y
theorem apL_symm (r o : Ru) : ∀ (n t : Nat) (x : List Nat), apL o r n t x = apL r o n t x
  | 0, _, _ => rfl
  | n + 1, t, x => by
    rw [apL, apL]
    by_cases q : comesM r x = comesM o x
    · rw [if_pos q, if_pos q.symm, q]
      cases comesM o x with
      | none => rfl
      | some y => exact apL_symm r o n (t + 1) y
    · rw [if_neg q, if_neg fun z => q z.symm]
theorem courseM_comes (r : Ru) (x : List Nat) (n : Nat) : courseM r x (n + 1) = match comesM r x with
    | none => [x]
    | some y => x :: courseM r y n := by
  unfold comesM
  rw [courseM]
  cases ended r x <;> rfl
theorem apL_none (r o : Ru) : ∀ (n t : Nat) (x : List Nat), apL r o n t x = none → courseM r x n = courseM o x n
  | 0, _, _, _ => rfl
  | n + 1, t, x, h => by
    rw [apL] at h
    split at h
    · rename_i q
      rw [courseM_comes, courseM_comes, ← q]
      cases q2 : comesM r x with
      | none => rfl
      | some y =>
        rw [q2] at h
        simp only
        rw [apL_none r o n (t + 1) y h]
    · cases h
theorem apL_some (r o : Ru) : ∀ (n s : Nat) (x : List Nat) (t : Nat), apL r o n s x = some t → ∃ j, t = s + j ∧ j < n ∧ courseM r x j = courseM o x j ∧ courseM r x (j + 1) ≠ courseM o x (j + 1) ∧ (∀ m, j < m → apL r o m s x = some t) ∧ ∀ m, m ≤ j → apL r o m s x = none
  | 0, _, _, _, h => by cases h
  | n + 1, s, x, t, h => by
    rw [apL] at h
    split at h
    · rename_i q
      cases q2 : comesM r x with
      | none => rw [q2] at h; cases h
      | some y =>
        rw [q2] at h
        obtain ⟨j, h1, h2, h3, h4, h5, h6⟩ := apL_some r o n (s + 1) y t h
        refine ⟨j + 1, by omega, by omega, ?_, ?_, fun m hm => ?_, fun m hm => ?_⟩
        · rw [courseM_comes, courseM_comes, ← q, q2]
          simp only
          rw [h3]
        · rw [courseM_comes, courseM_comes, ← q, q2]
          simp only
          intro z
          exact h4 (List.cons.inj z).2
        · obtain ⟨m', rfl⟩ : ∃ m', m = m' + 1 := ⟨m - 1, by omega⟩
          rw [apL, if_pos q, q2]
          exact h5 m' (by omega)
        · cases m with
          | zero => rfl
          | succ m' =>
            rw [apL, if_pos q, q2]
            exact h6 m' (by omega)
    · rename_i q
      cases h
      refine ⟨0, rfl, by omega, rfl, ?_, fun m hm => ?_, fun m hm => ?_⟩
      · rw [courseM_comes, courseM_comes]
        cases q2 : comesM r x with
        | none =>
          cases q3 : comesM o x with
          | none => exact absurd (q2.trans q3.symm) q
          | some z => simp [courseM]
        | some y =>
          cases q3 : comesM o x with
          | none => simp [courseM]
          | some z =>
            simp only [courseM]
            intro e
            apply q
            rw [q2, q3]
            simpa using e
      · obtain ⟨m', rfl⟩ : ∃ m', m = m' + 1 := ⟨m - 1, by omega⟩
        rw [apL, if_neg q]
      · have : m = 0 := by omega
        subst this; rfl
/-! ### other rules of the law -/
def setF (i : Nat) (ρ : En) (ds : List PyData) (k d : PyData) : Fl := match k with
  | .int j => match ixN ds.length j with
    | some m => .nx (ρ.set i (some (.own (ds.set m d))))
    | none => .bad
  | _ => .bad
@[simp] theorem r_sSetI {ρ : En} {fi fe : DEx} (i : Nat) : sSetI i fi fe ρ = sBind (fe ρ) ρ fun d => sBind (ownAt ρ i) ρ fun ds => sBind (fi ρ) ρ fun k => setF i ρ ds k d := id rfl
theorem setF_nat (i : Nat) (ρ : En) (ds : List PyData) (d : PyData) {m : Nat} (h : m < ds.length) : setF i ρ ds (.int (m : Nat)) d = .nx (ρ.set i (some (.own (ds.set m d)))) := by
  have e : ixN ds.length (m : Int) = some m := by
    unfold ixN
    rw [if_pos (by omega), if_pos (by omega)]; simp
  show (match ixN ds.length (m : Int) with | some m => _ | none => _) = _
  rw [e]
def loBody : DS := (sSeq (sAsg 7 (eCall 2 M__law_seed (aCons (eVar 3) (aCons (e2 dAdd (eC (.int 2)) (eVar 6)) (aNil))))) (sSeq (sAsg 8 (eCall 3 M__law_letters (aCons (eCall 2 M__law_seed (aCons (eVar 7) (aCons (eC (.int 1)) (aNil)))) (aCons (eVar 4) (aCons (eCall 2 M__law_pick (aCons (eCall 2 M__law_seed (aCons (eVar 7) (aCons (eC (.int 2)) (aNil)))) (aCons (eC (.int 5)) (aNil)))) (aNil)))))) (sSetI 5 (eCall 2 M__law_pick (aCons (eCall 2 M__law_seed (aCons (eVar 7) (aCons (eC (.int 3)) (aNil)))) (aCons (eVar 4) (aNil)))) (eIf (t2 dEq (e2 dMod (e2 dDiv (eVar 7) (eC (.int 7))) (eC (.int 7))) (eC (.int 0))) (eC .none) (eVar 8)))))
def WsOk (m : Nat) (ws : List (Option (List Nat))) : Prop := ws.length = m ∧ ∀ x, some x ∈ ws → x.length ≤ 4 ∧ Lt m x
theorem lo_loop {m : Nat} (h1 : 1 ≤ m) (h3 : m ≤ 3) (u : Int) (x0 x1 x2 : Option LV) : ∀ (ks : List Nat) (ws : List (Option (List Nat))) (x6 x7 x8 : Option LV), WsOk m ws →
    ∃ ws' y6 y7 y8, WsOk m ws' ∧ forL (gN 6) loBody (ks.map fun k => PyData.int (k : Nat)) [x0, x1, x2, some (.fz (.int u)), some (.fz (.int m)), some (.own (ws.map wD)), x6, x7, x8] = .nx [x0, x1, x2, some (.fz (.int u)), some (.fz (.int m)), some (.own (ws'.map wD)), y6, y7, y8]
  | [], ws, x6, x7, x8, hw => ⟨ws, x6, x7, x8, hw, rfl⟩
  | k :: ks, ws, x6, x7, x8, hw => by
    have s1 := M_seed u (2 + (k : Int))
    generalize seedI u (2 + (k : Int)) = v at s1
    have s2 := M_seed v 1
    have s3 := M_seed v 2
    have s4 := M_seed v 3
    generalize seedI v 1 = v1 at s2
    generalize seedI v 2 = v2 at s3
    generalize seedI v 3 = v3 at s4
    have p5 := M_pick (s := v2) (m := 5) (by decide)
    have pm := M_pick (s := v3) (m := (m : Int)) (by omega)
    have a1 := md_nn (v2 / 97) (b := 5) (by decide)
    have a2 := md_lt (v2 / 97) (b := 5) (by decide)
    have b1 := md_nn (v3 / 97) (b := (m : Int)) (by omega)
    have b2 := md_lt (v3 / 97) (b := (m : Int)) (by omega)
    obtain ⟨n, hn⟩ : ∃ n : Nat, v2 / 97 % 5 = n := ⟨(v2 / 97 % 5).toNat, by omega⟩
    obtain ⟨j, hj⟩ : ∃ n : Nat, v3 / 97 % (m : Int) = n := ⟨(v3 / 97 % (m : Int)).toNat, by omega⟩
    rw [hn] at p5 a2
    rw [hj] at pm b2
    have lt := M_letters (s := v1) (m := (m : Int)) n (by omega) (by omega) (by omega)
    have ll := lettersL_len v1 (m : Int) n
    have lo := lettersL_lt (s := v1) (n := n) (show (1 : Int) ≤ (m : Int) by omega)
    generalize lettersL v1 (m : Int) n = w at lt ll lo
    simp only [Int.toNat_natCast] at lo
    have hjl : j < (ws.map wD).length := by rw [List.length_map, hw.1]; omega
    obtain ⟨w0, ok0, hif⟩ : ∃ w0 : Option (List Nat), (∀ x, w0 = some x → x.length ≤ 4 ∧ Lt m x) ∧ (if v / 7 % 7 = 0 then PyData.none else sD w) = wD w0 := by
      by_cases q : v / 7 % 7 = 0
      · exact ⟨none, by simp, by simp [q, wD]⟩
      · exact ⟨some w, fun x hx => by cases hx; exact ⟨by omega, lo⟩, by simp [q, wD]⟩
    have hset : (ws.map wD).set j (wD w0) = (ws.set j w0).map wD := by rw [List.map_set]
    have hw' : WsOk m (ws.set j w0) := ⟨by rw [List.length_set]; exact hw.1, fun x hx => by
      rcases List.mem_or_eq_of_mem_set hx with h | h
      · exact hw.2 x h
      · exact ok0 x h.symm⟩
    obtain ⟨ws', y6, y7, y8, i1, ih⟩ := lo_loop h1 h3 u x0 x1 x2 ks (ws.set j w0) (some (.fz (.int k))) (some (.fz (.int v))) (some (.fz (sD w))) hw'
    refine ⟨ws', y6, y7, y8, i1, ?_⟩
    rw [List.map_cons, ← ih, ← hset, ← hif]
    refine forL_step (ρ1 := [x0, x1, x2, some (.fz (.int u)), some (.fz (.int m)), some (.own (ws.map wD)), some (.fz (.int k)), x7, x8]) rfl ?_
    have sn := fun ρ d => setF_nat 5 ρ (ws.map wD) d hjl
    generalize ws.map wD = wds at sn
    by_cases q : v / 7 % 7 = 0
    · simp [loBody, s1, s2, s3, s4, p5, pm, lt, q, sn]
    · simp [loBody, s1, s2, s3, s4, p5, pm, lt, q, sn]
theorem M_other {r : Ru} (ok : r.Ok) (ns : List Int) (at_ : Nat) : ∃ o : Ru, o.Ok ∧ o.ws.length = r.ws.length ∧ M__law_other [nsD ns, .int at_, rD r] = .ok (rD o) := by
  have c1 := ok.c1
  have c3 := ok.c3
  have n1 := ok.n1
  have n3 := ok.n3
  have hc := M_cell ns at_
  have s1 := M_seed (cell ns at_) 3
  generalize seedI (cell ns at_) 3 = u at s1
  have s2 := M_seed u 1
  have s9 := M_seed u 9
  generalize seedI u 1 = u1 at s2
  generalize seedI u 9 = u9 at s9
  have p1 := M_pick (s := u1) (m := 3) (by decide)
  have p9 := M_pick (s := u9) (m := 3) (by decide)
  have a1 := md_nn (u1 / 97) (b := 3) (by decide)
  have a2 := md_lt (u1 / 97) (b := 3) (by decide)
  have b1 := md_nn (u9 / 97) (b := 3) (by decide)
  have b2 := md_lt (u9 / 97) (b := 3) (by decide)
  obtain ⟨n, hn⟩ : ∃ n : Nat, u1 / 97 % 3 = n := ⟨(u1 / 97 % 3).toNat, by omega⟩
  obtain ⟨j, hj⟩ : ∃ n : Nat, u9 / 97 % 3 = n := ⟨(u9 / 97 % 3).toNat, by omega⟩
  rw [hn] at p1 a2
  rw [hj] at p9 b2
  obtain ⟨ws', y6, y7, y8, ⟨w1, w2⟩, lp⟩ := lo_loop n1 n3 u (some (.fz (nsD ns))) (some (.fz (.int at_))) (some (.fz (rD r))) (List.range n) r.ws none none none ⟨rfl, ok.w⟩
  have er : (List.range n).map (fun (k : Nat) => PyData.int (k : Nat)) = rangeD 0 n := by rw [rangeD_eq]; simp
  rw [er] at lp
  have hr : inR (n : Int) = true := inR_of (by omega) (by omega)
  have z2 : 2 ≤ sizeLine := size1 (by omega)
  have e : M__law_other [nsD ns, .int at_, rD r] = outD (Fl.seq (forL (gN 6) loBody (rangeD 0 n) [some (.fz (nsD ns)), some (.fz (.int at_)), some (.fz (rD r)), some (.fz (.int u)), some (.fz (.int (r.ws.length : Nat))), some (.own (r.ws.map wD)), none, none, none]) (sRet (eTup (aCons (eIf (t2 dEq (e2 dMod (e2 dDiv (eVar 3) (eC (.int 11))) (eC (.int 4))) (eC (.int 0))) (e2 dAdd (eC (.int 1)) (eCall 2 M__law_pick (aCons (eCall 2 M__law_seed (aCons (eVar 3) (aCons (eC (.int 9)) (aNil)))) (aCons (eC (.int 3)) (aNil))))) (e2 dIx (eVar 2) (eC (.int 0)))) (aCons (eB dTuple (aCons (eVarB 5) (aNil))) (aNil)))))) := by
    simp [M__law_other, f__law_other, startE, hc, s1, s2, p1, hr, loBody]
  by_cases q : u / 11 % 4 = 0
  · refine ⟨⟨1 + j, ws'⟩, ⟨by show 1 ≤ 1 + j; omega, by show 1 + j ≤ 3; omega, by show 1 ≤ ws'.length; omega, by show ws'.length ≤ 3; omega, fun x hx => by show x.length ≤ 4 ∧ Lt ws'.length x; rw [w1]; exact w2 x hx⟩, w1, ?_⟩
    rw [e, lp]
    simp [q, s9, p9, z2, rD]
  · refine ⟨⟨r.cut, ws'⟩, ⟨c1, c3, by show 1 ≤ ws'.length; omega, by show ws'.length ≤ 3; omega, fun x hx => by show x.length ≤ 4 ∧ Lt ws'.length x; rw [w1]; exact w2 x hx⟩, w1, ?_⟩
    rw [e, lp]
    simp [q, z2, rD]
end DL
namespace DL
open PySem PySem.Spec L2
/-! ### the law's words of a length -/
theorem grow_asg {cutE : DEx} {i w v : Nat} {ρ : En} {ls : List Nat} (hc : ∀ a b, cutE ((ρ.set i a).set w b) = .ok (sD ls)) (hi : i < ρ.length) (hw : w < ρ.length) (hv : v < ρ.length) (hiw : i ≠ w) (hwv : w ≠ v) (h3 : ls.length ≤ 3) :
    ∀ (os acc : List (List Nat)) (x : Option LV), (∀ o ∈ os, o.length ≤ 1000) → acc.length + 3 * os.length ≤ 10000 →
    ∃ y, forL (gN w) (sAsg i (e2 dAdd (eVar i) (grE cutE w v))) (os.map sD) ((ρ.set i (some (.fz (.list (acc.map sD))))).set w x) = .nx ((ρ.set i (some (.fz (.list ((acc ++ growL ls os).map sD))))).set w y)
  | [], acc, x, _, _ => ⟨x, by simp [forL, growL]⟩
  | o :: os, acc, x, ho, hl => by
    simp only [List.length_cons] at hl
    have h1 := ho o (by simp)
    obtain ⟨y, ih⟩ := grow_asg hc hi hw hv hiw hwv h3 os (acc ++ ls.map fun c => o ++ [c]) (some (.fz (sD o))) (fun o h => ho o (by simp [h])) (by simp; omega)
    refine ⟨y, ?_⟩
    have e0 : ((ρ.set i (some (.fz (.list (acc.map sD))))).set w x).set w (some (.fz (sD o))) = (ρ.set i (some (.fz (.list (acc.map sD))))).set w (some (.fz (sD o))) := by simp
    have hg : grE cutE w v ((ρ.set i (some (.fz (.list (acc.map sD))))).set w (some (.fz (sD o)))) = .ok (.list ((ls.map fun c => o ++ [c]).map sD)) :=
      grE_eq (hc _ _) (get_set (by simpa using hw)) (by simpa using hv) hwv h3 h1
    have e1 : ((ρ.set i (some (.fz (.list (acc.map sD))))).set w (some (.fz (sD o))))[i]? = some (some (.fz (.list (acc.map sD)))) := by
      rw [get_set2 (Ne.symm hiw), get_set hi]
    have e2' : ∀ z, ((ρ.set i (some (.fz (.list (acc.map sD))))).set w (some (.fz (sD o)))).set i z = (ρ.set i z).set w (some (.fz (sD o))) := by
      intro z
      rw [List.set_comm _ _ (Ne.symm hiw), List.set_set]
    have hz : acc.length + ls.length ≤ sizeLine := size1 (by omega)
    have e3 : growL ls (o :: os) = (ls.map fun c => o ++ [c]) ++ growL ls os := by simp [growL]
    have st : sAsg i (e2 dAdd (eVar i) (grE cutE w v)) ((ρ.set i (some (.fz (.list (acc.map sD))))).set w (some (.fz (sD o)))) = .nx ((ρ.set i (some (.fz (.list ((acc ++ ls.map fun c => o ++ [c]).map sD))))).set w (some (.fz (sD o)))) := by
      rw [r_sAsg, r_e2, r_eVar, e1, hg]
      simp only [two_ok, v_add3, List.length_map]
      rw [if_pos hz, rso_some, sb_ok, e2', List.map_append]
    rw [List.map_cons, e3, ← List.append_assoc, ← ih]
    simp only [forL, r_gN, e0, st]
def evBody : DS := (sSeq (sAsg 4 (eFz (nLst (aNil)))) (sSeq (sFor (iSeq (eVar 2)) (gN 5) (sAsg 4 (e2 dAdd (eVar 4) (grE wtCut 5 6)))) (sAsg 2 (eVar 4))))
theorem ev_loop {m : Nat} (hm : m ≤ 3) (x1 x6 : Option LV) : ∀ (ks : List PyData) (os : List (List Nat)) (q : Nat) (x3 x4 x5 : Option LV), (∀ o ∈ os, o.length ≤ q) → q + ks.length ≤ 100 → os.length * 3 ^ ks.length ≤ 1000 →
    ∃ y3 y4 y5, forL (gN 3) evBody ks [some (.fz (.int m)), x1, some (.fz (.list (os.map sD))), x3, x4, x5, x6] = .nx [some (.fz (.int m)), x1, some (.fz (.list ((heads (letsN m) ks.length os).map sD))), y3, y4, y5, x6]
  | [], os, q, x3, x4, x5, _, _, _ => ⟨x3, x4, x5, rfl⟩
  | k :: ks, os, q, x3, x4, x5, ho, hq, hl => by
    simp only [List.length_cons] at hq hl
    have ll := letsN_len hm
    have hol : os.length ≤ 1000 := by
      have : 1 ≤ 3 ^ (ks.length + 1) := Nat.one_le_pow _ _ (by omega)
      calc os.length = os.length * 1 := by simp
        _ ≤ os.length * 3 ^ (ks.length + 1) := Nat.mul_le_mul_left _ this
        _ ≤ 1000 := hl
    obtain ⟨y, ge⟩ := grow_asg (cutE := wtCut) (i := 4) (w := 5) (v := 6) (ρ := [some (.fz (.int m)), x1, some (.fz (.list (os.map sD))), some (.fz k), none, none, x6]) (ls := letsN m) (fun a b => by simp [wtCut, cut_abc hm, letsN]) (by simp) (by simp) (by simp) (by decide) (by decide) (by omega) os [] x5 (fun o h => by have := ho o h; omega) (by simp; omega)
    simp only [List.map_nil, List.set_cons_zero, List.set_cons_succ, List.nil_append] at ge
    obtain ⟨y3, y4, y5, ih⟩ := ev_loop hm x1 x6 ks (growL (letsN m) os) (q + 1) (some (.fz k)) (some (.fz (.list ((growL (letsN m) os).map sD)))) y (fun o h => by
      obtain ⟨o', h1, c, _, rfl⟩ := growL_mem h
      have := ho o' h1
      simp; omega) (by omega) (by
        rw [growL_len, ll]
        calc m * os.length * 3 ^ ks.length ≤ 3 * os.length * 3 ^ ks.length := Nat.mul_le_mul_right _ (Nat.mul_le_mul_right _ hm)
          _ = os.length * 3 ^ (ks.length + 1) := by rw [Nat.pow_succ, Nat.mul_comm 3, Nat.mul_assoc, Nat.mul_comm 3]
          _ ≤ 1000 := hl)
    refine ⟨y3, y4, y5, ?_⟩
    have eh : heads (letsN m) (k :: ks).length os = heads (letsN m) ks.length (growL (letsN m) os) := rfl
    rw [eh, ← ih]
    refine forL_step rfl ?_
    simp [evBody, ge]
theorem M_law_every_eq {m n : Nat} (hm : m ≤ 3) (hn : n ≤ 6) : M__law_every [.int m, .int n] = .ok (.list ((heads (letsN m) n [[]]).map sD)) := by
  have hr : inR (n : Int) = true := inR_of (by omega) (by omega)
  have z1 : 1 ≤ sizeLine := size1 (by omega)
  have hp6 : 3 ^ n ≤ 3 ^ 6 := Nat.pow_le_pow_right (by decide) hn
  obtain ⟨y3, y4, y5, lp⟩ := ev_loop hm (some (.fz (.int n))) none (rangeD 0 n) [[]] 0 none none none (by simp) (by rw [rangeD_len]; omega) (by rw [rangeD_len]; simp; omega)
  rw [rangeD_len] at lp
  have e : M__law_every [.int m, .int n] = outD (Fl.seq (forL (gN 3) evBody (rangeD 0 n) [some (.fz (.int m)), some (.fz (.int n)), some (.fz (.list ([[]].map sD))), none, none, none, none]) (sRet (eVar 2))) := by
    simp [M__law_every, f__law_every, startE, z1, hr, S_nil, evBody, grE, wtCut]
  rw [e, lp]
  simp
end DL
namespace DL
open PySem PySem.Spec L2
/-! ### rows ahead, the program's -/
theorem v_ends (l w : List Nat) : dEnds (sD l) [sD w] = some (.bool (decide (l.drop (l.length - w.length) = w))) := by
  show some (PyData.bool (Txt.endswith (S l) (S w))) = _
  congr 2
  unfold Txt.endswith
  rw [PySem.StrLaws.subAt_eq, S_cps, S_cps, S_len, S_len, Nat.zero_add]
  rw [Bool.eq_iff_iff]
  simp only [Bool.and_eq_true, decide_eq_true_eq, beq_iff_eq]
  constructor
  · rintro ⟨h1, h2⟩
    rw [List.take_of_length_le (by rw [List.length_drop]; omega)] at h2
    exact h2
  · intro h
    have hl := congrArg List.length h
    rw [List.length_drop] at hl
    refine ⟨by omega, ?_⟩
    rw [List.take_of_length_le (by rw [List.length_drop]; omega)]
    exact h
theorem growL_map (ls p : List Nat) : ∀ os : List (List Nat), growL ls (os.map fun o => p ++ o) = (growL ls os).map fun o => p ++ o
  | [] => rfl
  | o :: os => by
    have := growL_map ls p os
    unfold growL at this ⊢
    rw [List.map_cons, List.flatMap_cons, List.flatMap_cons, List.map_append, this]
    congr 1
    simp
theorem heads_map (ls p : List Nat) : ∀ (n : Nat) (os : List (List Nat)), heads ls n (os.map fun o => p ++ o) = (heads ls n os).map fun o => p ++ o
  | 0, os => rfl
  | n + 1, os => by
    rw [heads, growL_map, heads_map ls p n]; rfl
theorem heads_one (ls : List Nat) (c n : Nat) : heads ls n [[c]] = (heads ls n [[]]).map fun o => [c] ++ o := heads_map ls [c] n [[]]
def aoBody : DS := (sSeq (sOwn 5 (nLst (aNil))) (sSeq (sFor (iSeq (eVar 3)) (gN 6) (sExt 5 (grE apCut 6 7))) (sFz 5 (sAsg 3 (eVar 5)))))
theorem ao_loop {r : Ru} (ok : r.Ok) (x1 x2 x7 x8 : Option LV) : ∀ (ks : List PyData) (os : List (List Nat)) (m : Nat) (x4 x5 x6 : Option LV), (∀ o ∈ os, o.length ≤ m) → m + ks.length ≤ 100 → os.length * 3 ^ ks.length ≤ 1000 →
    ∃ y4 y5 y6, forL (gN 4) aoBody ks [some (.fz (rD r)), x1, x2, some (.fz (.list (os.map sD))), x4, x5, x6, x7, x8] = .nx [some (.fz (rD r)), x1, x2, some (.fz (.list ((heads (lets r) ks.length os).map sD))), y4, y5, y6, x7, x8]
  | [], os, m, x4, x5, x6, _, _, _ => ⟨x4, x5, x6, rfl⟩
  | k :: ks, os, m, x4, x5, x6, ho, hm, hl => by
    simp only [List.length_cons] at hm hl
    have h3 := ok.n3
    have ll := lets_len ok
    have hol : os.length ≤ 1000 := by
      have : 1 ≤ 3 ^ (ks.length + 1) := Nat.one_le_pow _ _ (by omega)
      calc os.length = os.length * 1 := by simp
        _ ≤ os.length * 3 ^ (ks.length + 1) := Nat.mul_le_mul_left _ this
        _ ≤ 1000 := hl
    obtain ⟨y, ge⟩ := grow_ext (cutE := apCut) (i := 5) (w := 6) (v := 7) (ρ := [some (.fz (rD r)), x1, x2, some (.fz (.list (os.map sD))), some (.fz k), none, none, x7, x8]) (ls := lets r) (fun a b => by simp [apCut, cut_abc h3, lets]) (by simp) (by simp) (by simp) (by decide) (by decide) (by omega) os [] x6 (fun o h => by have := ho o h; omega) (by simp; omega)
    simp only [List.map_nil, List.set_cons_zero, List.set_cons_succ, List.nil_append] at ge
    obtain ⟨y4, y5, y6, ih⟩ := ao_loop ok x1 x2 x7 x8 ks (growL (lets r) os) (m + 1) (some (.fz k)) (some (.fz (.list ((growL (lets r) os).map sD)))) y (fun o h => by
      obtain ⟨o', h1, c, _, rfl⟩ := growL_mem h
      have := ho o' h1
      simp; omega) (by omega) (by
        rw [growL_len, ll]
        calc r.ws.length * os.length * 3 ^ ks.length ≤ 3 * os.length * 3 ^ ks.length := Nat.mul_le_mul_right _ (Nat.mul_le_mul_right _ h3)
          _ = os.length * 3 ^ (ks.length + 1) := by rw [Nat.pow_succ, Nat.mul_comm 3, Nat.mul_assoc, Nat.mul_comm 3]
          _ ≤ 1000 := hl)
    refine ⟨y4, y5, y6, ?_⟩
    have eh : heads (lets r) (k :: ks).length os = heads (lets r) ks.length (growL (lets r) os) := rfl
    rw [eh, ← ih]
    refine forL_step rfl ?_
    simp [aoBody, ge]
def aoC : DS := (sSeq (sAsg 8 (eCall 2 M_word_of (aCons (eVar 0) (aCons (eVar 7) (aNil))))) (sIf (tAnd (t2 dIsNot (eVar 8) (eC .none)) (tTru (eM "str" dEnds (eVar 1) (aCons (eVar 8) (aNil))))) (sExt 2 (eFz (nLc [6] (iSeq (eVar 3)) (gN 6) (tTrue) (e2 dAdd (e2 dAdd (eVar 7) (eVar 6)) (eCut (eVar 1) (oNone) (oSome (e2 dSub (eB dLen (aCons (eVar 1) (aNil))) (eB dLen (aCons (eVar 8) (aNil)))))))))) (sNil)))
theorem aoC_loop {r : Ru} (ok : r.Ok) {l : List Nat} (hl : l.length ≤ 100000) (x4 x5 x6 : Option LV) : ∀ (cs : List Nat) (acc : List (List Nat)) (x7 x8 : Option LV), (∀ c ∈ cs, 97 ≤ c ∧ c < 97 + r.ws.length) → acc.length + 9 * cs.length ≤ 1000 →
    ∃ y7 y8, forL (gN 7) aoC (cs.map fun c => sD [c]) [some (.fz (rD r)), some (.fz (sD l)), some (.own (acc.map sD)), some (.fz (.list ((heads (lets r) (r.cut - 1) [[]]).map sD))), x4, x5, x6, x7, x8] = .nx [some (.fz (rD r)), some (.fz (sD l)), some (.own ((acc ++ cs.flatMap (aheadC r l)).map sD)), some (.fz (.list ((heads (lets r) (r.cut - 1) [[]]).map sD))), x4, x5, x6, y7, y8]
  | [], acc, x7, x8, _, _ => ⟨x7, x8, by simp [forL]⟩
  | c :: cs, acc, x7, x8, hc, ha => by
    simp only [List.length_cons] at ha
    obtain ⟨h1, h2⟩ := hc c (by simp)
    have hw := M_word_of_eq ok h1 h2
    have al := aheadC_len ok l c
    have c3 := ok.c3
    cases q : wordOf r c with
    | none =>
      rw [q] at hw
      have ea : aheadC r l c = [] := by unfold aheadC; rw [q]
      obtain ⟨y7, y8, ih⟩ := aoC_loop ok hl x4 x5 x6 cs acc (some (.fz (sD [c]))) (some (.fz .none)) (fun c h => hc c (by simp [h])) (by omega)
      refine ⟨y7, y8, ?_⟩
      rw [List.map_cons, List.flatMap_cons, ea, List.nil_append, ← ih]
      refine forL_step (ρ1 := [some (.fz (rD r)), some (.fz (sD l)), some (.own (acc.map sD)), some (.fz (.list ((heads (lets r) (r.cut - 1) [[]]).map sD))), x4, x5, x6, some (.fz (sD [c])), x8]) rfl ?_
      simp [aoC, hw, wD]
    | some w =>
      rw [q] at hw
      have hx := (wordOf_ok ok q).1
      have ve := v_ends l w
      by_cases e : l.drop (l.length - w.length) = w
      · have hle : w.length ≤ l.length := by
          have := congrArg List.length e
          rw [List.length_drop] at this
          omega
        rw [decide_eq_true e] at ve
        have ea : aheadC r l c = (heads (lets r) (r.cut - 1) [[]]).map fun o => [c] ++ o ++ l.take (l.length - w.length) := by
          unfold aheadC
          rw [q]
          dsimp only
          rw [if_pos e, heads_one, List.map_map]
          rfl
        rw [ea] at al
        rw [List.length_map] at al
        have hsl : ∀ o ∈ heads (lets r) (r.cut - 1) [[]], o.length ≤ 10 := by
          intro o ho
          obtain ⟨o', h1', t, ht, _, rfl⟩ := heads_mem ho
          simp at h1'
          subst h1'
          simp; omega
        have lc : lcL (gN 6) tTrue (e2 dAdd (e2 dAdd (eVar 7) (eVar 6)) (eCut (eVar 1) (oNone) (oSome (e2 dSub (eB dLen (aCons (eVar 1) (aNil))) (eB dLen (aCons (eVar 8) (aNil))))))) [some (.fz (rD r)), some (.fz (sD l)), some (.own (acc.map sD)), some (.fz (.list ((heads (lets r) (r.cut - 1) [[]]).map sD))), x4, x5, none, some (.fz (sD [c])), some (.fz (sD w))] ((heads (lets r) (r.cut - 1) [[]]).map sD) = .ok (((heads (lets r) (r.cut - 1) [[]]).map fun o => [c] ++ o ++ l.take (l.length - w.length)).map sD) := by
          rw [List.map_map]
          refine lcL_all _ _ _ fun o ho => ?_
          have := hsl o ho
          have z3 : o.length + 1 ≤ sizeLine := size1 (by omega)
          have z4 : o.length + 1 + (l.length - w.length) ≤ sizeLine := size1 (by omega)
          have e5 : ((l.length : Int) - w.length) = ((l.length - w.length : Nat) : Int) := by omega
          simp [e5, cutS_to, Nat.add_comm 1 o.length, z3, z4]
        have ih0 := aoC_loop ok hl x4 x5 x6 cs (acc ++ (heads (lets r) (r.cut - 1) [[]]).map fun o => [c] ++ o ++ l.take (l.length - w.length)) (some (.fz (sD [c]))) (some (.fz (sD w))) (fun c h => hc c (by simp [h])) (by rw [List.length_append, List.length_map]; omega)
        obtain ⟨y7, y8, ih⟩ := ih0
        refine ⟨y7, y8, ?_⟩
        rw [List.map_cons, List.flatMap_cons, ea, ← List.append_assoc, ← ih]
        refine forL_step (ρ1 := [some (.fz (rD r)), some (.fz (sD l)), some (.own (acc.map sD)), some (.fz (.list ((heads (lets r) (r.cut - 1) [[]]).map sD))), x4, x5, x6, some (.fz (sD [c])), x8]) rfl ?_
        have z5 : (heads (lets r) (r.cut - 1) [[]]).length ≤ sizeLine := size1 (by omega)
        have z6 : acc.length + (heads (lets r) (r.cut - 1) [[]]).length ≤ sizeLine := size1 (by omega)
        generalize heads (lets r) (r.cut - 1) [[]] = hs at lc z5 z6
        rw [List.map_append]
        have hres : ((hs.map fun o => [c] ++ o ++ l.take (l.length - w.length)).map sD).length = hs.length := by rw [List.length_map, List.length_map]
        generalize (hs.map fun o => [c] ++ o ++ l.take (l.length - w.length)).map sD = res at lc hres
        simp [aoC, hw, wD, ve, z5, lc, hres, z6]
      · rw [decide_eq_false e] at ve
        have ea : aheadC r l c = [] := by unfold aheadC; rw [q]; dsimp only; rw [if_neg e]
        obtain ⟨y7, y8, ih⟩ := aoC_loop ok hl x4 x5 x6 cs acc (some (.fz (sD [c]))) (some (.fz (sD w))) (fun c h => hc c (by simp [h])) (by omega)
        refine ⟨y7, y8, ?_⟩
        rw [List.map_cons, List.flatMap_cons, ea, List.nil_append, ← ih]
        refine forL_step (ρ1 := [some (.fz (rD r)), some (.fz (sD l)), some (.own (acc.map sD)), some (.fz (.list ((heads (lets r) (r.cut - 1) [[]]).map sD))), x4, x5, x6, some (.fz (sD [c])), x8]) rfl ?_
        simp [aoC, hw, wD, ve]
theorem M_ahead_of_eq {r : Ru} (ok : r.Ok) {l : List Nat} (hl : l.length ≤ 100000) : M_ahead_of [rD r, sD l] = .ok (.list ((aheadM r l).map sD)) := by
  have h3 := ok.n3
  have c1 := ok.c1
  have c3 := ok.c3
  have hp : 3 ^ (r.cut - 1) ≤ 3 ^ 2 := Nat.pow_le_pow_right (by decide) (by omega)
  obtain ⟨y4, y5, y6, lp1⟩ := ao_loop ok (some (.fz (sD l))) (some (.own [])) none none (rangeD 0 (r.cut - 1)) [[]] 0 none none none (by simp) (by rw [rangeD_len]; omega) (by rw [rangeD_len]; simp; omega)
  rw [rangeD_len] at lp1
  obtain ⟨y7, y8, lp2⟩ := aoC_loop ok hl y4 y5 y6 (lets r) [] none none (fun c h => (mem_lets ok).mp h) (by rw [lets_len ok]; simp; omega)
  simp only [List.nil_append, List.map_nil] at lp2
  have hu := flatMap_len_le (fun c => aheadC_len ok l c) (lets r)
  rw [lets_len ok] at hu
  have hu2 : (aheadU r l).length < 64 := by unfold aheadU; omega
  have hr : inR ((r.cut : Int) - 1) = true := inR_of (by omega) (by omega)
  have et : ((r.cut : Int) - 1).toNat = r.cut - 1 := by omega
  have z1 : 1 ≤ sizeLine := size1 (by omega)
  have sr := v_sorted (aheadU r l) hu2
  unfold aheadU at sr
  generalize hH : heads (lets r) (r.cut - 1) [[]] = H at lp1 lp2
  have e : M_ahead_of [rD r, sD l] = outD (Fl.seq (forL (gN 4) aoBody (rangeD 0 (r.cut - 1)) [some (.fz (rD r)), some (.fz (sD l)), some (.own []), some (.fz (.list ([[]].map sD))), none, none, none, none, none]) (sSeq (sFor (iSeq (eCut (eC (.str "abc")) (oNone) (oSome (eB dLen (aCons (e2 dIx (eVar 0) (eC (.int 1))) (aNil)))))) (gN 7) aoC) (sRet (eFz (nB dSorted (aCons (eVarB 2) (aNil))))))) := by
    simp [M_ahead_of, f_ahead_of, startE, z1, hr, et, S_nil, aoBody, grE, apCut, aoC]
  rw [e, lp1, seq_nx]
  have e2' : sFor (iSeq (eCut (eC (.str "abc")) (oNone) (oSome (eB dLen (aCons (e2 dIx (eVar 0) (eC (.int 1))) (aNil)))))) (gN 7) aoC [some (.fz (rD r)), some (.fz (sD l)), some (.own []), some (.fz (.list (H.map sD))), y4, y5, y6, none, none] = .nx [some (.fz (rD r)), some (.fz (sD l)), some (.own (((lets r).flatMap (aheadC r l)).map sD)), some (.fz (.list (H.map sD))), y4, y5, y6, y7, y8] := by
    rw [← lp2]
    simp [cut_abc h3, lets]
  rw [seq_step e2']
  simp [sr, aheadM, aheadU]
theorem M_before_eq {r : Ru} (ok : r.Ok) {l : List Nat} (h : rowOk r l) : M_before [rD r, sD l] = .ok (.list ((aheadM r l).map sD)) := by
  have h2 := h.2
  simp [M_before, f_before, startE, M_look_row_ok ok h, M_ahead_of_eq ok (l := l) (by omega)]
/-! ### how many of each fate -/
def k4 (a b c d : Int) : List (Key × PyData) := [(.inr "ends", .int a), (.inr "round", .int b), (.inr "grows", .int c), (.inr "far", .int d)]
theorem k4_disp : mergeD [] (cKv [("ends", 0), ("round", 0), ("grows", 0), ("far", 0)]) = k4 0 0 0 0 := by rfl
theorem k4_v0 (a b c d : Int) : valD (k4 a b c d) (.inr "ends") = some (.int a) := by rfl
theorem k4_v1 (a b c d : Int) : valD (k4 a b c d) (.inr "round") = some (.int b) := by rfl
theorem k4_v2 (a b c d : Int) : valD (k4 a b c d) (.inr "grows") = some (.int c) := by rfl
theorem k4_v3 (a b c d : Int) : valD (k4 a b c d) (.inr "far") = some (.int d) := by rfl
theorem k4_p0 (a b c d n : Int) : putD (k4 a b c d) (.inr "ends") (.int n) = k4 n b c d := by rfl
theorem k4_p1 (a b c d n : Int) : putD (k4 a b c d) (.inr "round") (.int n) = k4 a n c d := by rfl
theorem k4_p2 (a b c d n : Int) : putD (k4 a b c d) (.inr "grows") (.int n) = k4 a b n d := by rfl
theorem k4_p3 (a b c d n : Int) : putD (k4 a b c d) (.inr "far") (.int n) = k4 a b c n := by rfl
def augF (i : Nat) (ρ : En) (kvs : List (Key × PyData)) (k : PyData) (fe : DEx) : Fl := match keyD k with
  | some k => match valD kvs k with
    | some (.int n) => sBind (fe ρ) ρ fun d => match d with
      | .int m => if kvs.length < sizeLine then .nx (ρ.set i (some (.ownd (putD kvs k (.int (n + m)))))) else .bad
      | _ => .bad
    | _ => .bad
  | none => .bad
@[simp] theorem r_sAugK {ρ : En} {fk fe : DEx} (i : Nat) : sAugK i fk fe ρ = sBind (owndAt ρ i) ρ fun kvs => sBind (fk ρ) ρ fun k => augF i ρ kvs k fe := id rfl
theorem z4s : 4 < sizeLine := by rw [sizeLine_eq]; omega
theorem aug0 (i : Nat) (ρ : En) (a b c d : Int) : augF i ρ (k4 a b c d) (.str "ends") (eC (.int 1)) = .nx (ρ.set i (some (.ownd (k4 (a + 1) b c d)))) := by
  unfold augF
  simp only [r_keyS, k4_v0, r_eC, sb_ok]
  rw [if_pos (show (k4 a b c d).length < sizeLine from z4s), k4_p0]
theorem aug1 (i : Nat) (ρ : En) (a b c d : Int) : augF i ρ (k4 a b c d) (.str "round") (eC (.int 1)) = .nx (ρ.set i (some (.ownd (k4 a (b + 1) c d)))) := by
  unfold augF
  simp only [r_keyS, k4_v1, r_eC, sb_ok]
  rw [if_pos (show (k4 a b c d).length < sizeLine from z4s), k4_p1]
theorem aug2 (i : Nat) (ρ : En) (a b c d : Int) : augF i ρ (k4 a b c d) (.str "grows") (eC (.int 1)) = .nx (ρ.set i (some (.ownd (k4 a b (c + 1) d)))) := by
  unfold augF
  simp only [r_keyS, k4_v2, r_eC, sb_ok]
  rw [if_pos (show (k4 a b c d).length < sizeLine from z4s), k4_p2]
theorem aug3 (i : Nat) (ρ : En) (a b c d : Int) : augF i ρ (k4 a b c d) (.str "far") (eC (.int 1)) = .nx (ρ.set i (some (.ownd (k4 a b c (d + 1))))) := by
  unfold augF
  simp only [r_keyS, k4_v3, r_eC, sb_ok]
  rw [if_pos (show (k4 a b c d).length < sizeLine from z4s), k4_p3]
def isE : Fate → Bool | .ends _ _ => true | _ => false
def isR : Fate → Bool | .round _ _ => true | _ => false
def isG : Fate → Bool | .grows _ _ _ => true | _ => false
def isF : Fate → Bool | .far _ _ => true | _ => false
def cnt4 (fs : List Fate) : PyData := .tuple [.int (fs.countP isE : Nat), .int (fs.countP isR : Nat), .int (fs.countP isG : Nat), .int (fs.countP isF : Nat)]
def soBody : DS := (sAugK 2 (e2 dIx (eCall 2 M_fate_of (aCons (eVar 0) (aCons (eVar 3) (aNil)))) (eC (.int 0))) (eC (.int 1)))
theorem so_loop {r : Ru} (ok : r.Ok) (x1 : Option LV) : ∀ (ws : List (List Nat)) (a b c d : Int) (x3 : Option LV), (∀ w ∈ ws, Lt r.ws.length w ∧ w.length ≤ 100) →
    ∃ y3, forL (gN 3) soBody (ws.map sD) [some (.fz (rD r)), x1, some (.ownd (k4 a b c d)), x3] = .nx [some (.fz (rD r)), x1, some (.ownd (k4 (a + ((ws.map (fateM r)).countP isE : Nat)) (b + ((ws.map (fateM r)).countP isR : Nat)) (c + ((ws.map (fateM r)).countP isG : Nat)) (d + ((ws.map (fateM r)).countP isF : Nat)))), y3]
  | [], a, b, c, d, x3, _ => ⟨x3, by simp [forL]⟩
  | w :: ws, a, b, c, d, x3, h => by
    obtain ⟨h1, h2⟩ := h w (by simp)
    have mf := M_fate_of_eq ok h1 (by omega)
    have f0 := fD_0 (fateM r w)
    rw [List.map_cons, List.map_cons, List.countP_cons, List.countP_cons, List.countP_cons, List.countP_cons]
    cases q : fateM r w with
    | ends n l =>
      rw [q] at mf f0
      obtain ⟨y3, ih⟩ := so_loop ok x1 ws (a + 1) b c d (some (.fz (sD w))) fun w hw => h w (by simp [hw])
      refine ⟨y3, ?_⟩
      simp only [isE, isR, isG, isF, if_true, Bool.false_eq_true, if_false, Nat.add_zero]
      rw [show a + (((ws.map (fateM r)).countP isE + 1 : Nat) : Int) = a + 1 + ((ws.map (fateM r)).countP isE : Nat) by omega, ← ih]
      exact forL_step (ρ1 := [some (.fz (rD r)), x1, some (.ownd (k4 a b c d)), some (.fz (sD w))]) rfl (by simp [soBody, mf, f0, kindS, aug0])
    | round n l =>
      rw [q] at mf f0
      obtain ⟨y3, ih⟩ := so_loop ok x1 ws a (b + 1) c d (some (.fz (sD w))) fun w hw => h w (by simp [hw])
      refine ⟨y3, ?_⟩
      simp only [isE, isR, isG, isF, if_true, Bool.false_eq_true, if_false, Nat.add_zero]
      rw [show b + (((ws.map (fateM r)).countP isR + 1 : Nat) : Int) = b + 1 + ((ws.map (fateM r)).countP isR : Nat) by omega, ← ih]
      exact forL_step (ρ1 := [some (.fz (rD r)), x1, some (.ownd (k4 a b c d)), some (.fz (sD w))]) rfl (by simp [soBody, mf, f0, kindS, aug1])
    | grows n l k =>
      rw [q] at mf f0
      obtain ⟨y3, ih⟩ := so_loop ok x1 ws a b (c + 1) d (some (.fz (sD w))) fun w hw => h w (by simp [hw])
      refine ⟨y3, ?_⟩
      simp only [isE, isR, isG, isF, if_true, Bool.false_eq_true, if_false, Nat.add_zero]
      rw [show c + (((ws.map (fateM r)).countP isG + 1 : Nat) : Int) = c + 1 + ((ws.map (fateM r)).countP isG : Nat) by omega, ← ih]
      exact forL_step (ρ1 := [some (.fz (rD r)), x1, some (.ownd (k4 a b c d)), some (.fz (sD w))]) rfl (by simp [soBody, mf, f0, kindS, aug2])
    | far n l =>
      rw [q] at mf f0
      obtain ⟨y3, ih⟩ := so_loop ok x1 ws a b c (d + 1) (some (.fz (sD w))) fun w hw => h w (by simp [hw])
      refine ⟨y3, ?_⟩
      simp only [isE, isR, isG, isF, if_true, Bool.false_eq_true, if_false, Nat.add_zero]
      rw [show d + (((ws.map (fateM r)).countP isF + 1 : Nat) : Int) = d + 1 + ((ws.map (fateM r)).countP isF : Nat) by omega, ← ih]
      exact forL_step (ρ1 := [some (.fz (rD r)), x1, some (.ownd (k4 a b c d)), some (.fz (sD w))]) rfl (by simp [soBody, mf, f0, kindS, aug3])
theorem getK_4 (a b c d : Int) : getK (k4 a b c d) (.str "ends") = .ok (.int a) ∧ getK (k4 a b c d) (.str "round") = .ok (.int b) ∧ getK (k4 a b c d) (.str "grows") = .ok (.int c) ∧ getK (k4 a b c d) (.str "far") = .ok (.int d) := by
  unfold getK
  simp only [r_keyS, k4_v0, k4_v1, k4_v2, k4_v3, rso_some, and_self]
@[simp] theorem r_sDisp {ρ : En} (i : Nat) (cs : List (Str × Int)) : sDisp i cs ρ = .nx (ρ.set i (some (.ownd (mergeD [] (cKv cs))))) := id rfl
theorem M_sorted_out_eq {r : Ru} (ok : r.Ok) {n : Nat} (hn : n ≤ 4) : M_sorted_out [rD r, .int n] = .ok (cnt4 ((upTo r.ws.length n).map (fateM r))) := by
  have hw : M_is_within [.int n, .int 0, .int 4] = .ok (.bool true) := within_yes (by omega)
  have mw := M_words_to_eq (m := r.ws.length) ok.n3 (n := n) (by omega)
  obtain ⟨y3, lp⟩ := so_loop ok (some (.fz (.int n))) (upTo r.ws.length n) 0 0 0 0 none fun w h => by
    have := (mem_upTo ok.n3).mp h
    exact ⟨this.1, by omega⟩
  have z4 : 4 ≤ sizeLine := size1 (by omega)
  simp only [Int.zero_add] at lp
  have e : M_sorted_out [rD r, .int n] = outD (Fl.seq (forL (gN 3) soBody ((upTo r.ws.length n).map sD) [some (.fz (rD r)), some (.fz (.int n)), some (.ownd (k4 0 0 0 0)), none]) (sRet (eTup (aCons (eGetK 2 (eC (.str "ends"))) (aCons (eGetK 2 (eC (.str "round"))) (aCons (eGetK 2 (eC (.str "grows"))) (aCons (eGetK 2 (eC (.str "far"))) (aNil)))))))) := by
    simp [M_sorted_out, f_sorted_out, startE, M_look_ok ok, hw, mw, k4_disp, soBody]
  rw [e, lp]
  unfold cnt4
  generalize (upTo r.ws.length n).map (fateM r) = fs
  obtain ⟨g1, g2, g3, g4⟩ := getK_4 (fs.countP isE : Nat) (fs.countP isR : Nat) (fs.countP isG : Nat) (fs.countP isF : Nat)
  simp [g1, g2, g3, g4, z4]
end DL
namespace DL
open PySem PySem.Spec L2
/-! ### other letters for letters -/
structure Ren (r o : Ru) (f : Nat → Nat) : Prop where
  n : o.ws.length = r.ws.length
  c : o.cut = r.cut
  m : ∀ c, 97 ≤ c → c < 97 + r.ws.length → 97 ≤ f c ∧ f c < 97 + r.ws.length
  i : ∀ c d, 97 ≤ c → c < 97 + r.ws.length → 97 ≤ d → d < 97 + r.ws.length → f c = f d → c = d
  w : ∀ c, 97 ≤ c → c < 97 + r.ws.length → wordOf o (f c) = (wordOf r c).map (List.map f)
section
variable {r o : Ru} {f : Nat → Nat}
theorem Ren.lt (h : Ren r o f) {l : List Nat} (hl : Lt r.ws.length l) : Lt r.ws.length (l.map f) := by
  intro c hc
  obtain ⟨d, hd, rfl⟩ := List.mem_map.mp hc
  exact h.m d (hl d hd).1 (hl d hd).2
theorem Ren.inj (h : Ren r o f) : ∀ {a b : List Nat}, Lt r.ws.length a → Lt r.ws.length b → a.map f = b.map f → a = b
  | [], [], _, _, _ => rfl
  | [], _ :: _, _, _, e => by cases e
  | _ :: _, [], _, _, e => by cases e
  | x :: a, y :: b, ha, hb, e => by
    simp only [List.map_cons, List.cons.injEq] at e
    have h1 := ha x (by simp)
    have h2 := hb y (by simp)
    rw [h.i x y h1.1 h1.2 h2.1 h2.2 e.1, h.inj (fun c hc => ha c (by simp [hc])) (fun c hc => hb c (by simp [hc])) e.2]
theorem Ren.ended (h : Ren r o f) (ok : r.Ok) {l : List Nat} (hl : Lt r.ws.length l) : ended o (l.map f) = ended r l := by
  have c1 := ok.c1
  cases l with
  | nil =>
    unfold DL.ended
    rw [h.c, decide_eq_true (show ([] : List Nat).length < r.cut by simp; omega), decide_eq_true (show (([] : List Nat).map f).length < r.cut by simp; omega)]
    rfl
  | cons c t =>
    have hc := hl c (by simp)
    unfold DL.ended
    rw [List.length_map, h.c, List.map_cons, List.headD_cons, List.headD_cons, h.w c hc.1 hc.2]
    cases wordOf r c <;> rfl
theorem Ren.next (h : Ren r o f) {l : List Nat} (ok : r.Ok) (hl : Lt r.ws.length l) (he : DL.ended r l = false) : next o (l.map f) = (next r l).map f := by
  cases l with
  | nil => rw [ended_nil ok] at he; cases he
  | cons c t =>
    have hc := hl c (by simp)
    unfold DL.next
    rw [h.c, List.map_append, List.map_drop, List.map_cons, List.headD_cons, List.headD_cons, h.w c hc.1 hc.2]
    cases wordOf r c <;> rfl
theorem Ren.iter (h : Ren r o f) (ok : r.Ok) : ∀ (n : Nat) {l : List Nat}, Lt r.ws.length l → iter o (l.map f) n = (iter r l n).map (List.map f)
  | 0, l, _ => rfl
  | n + 1, l, hl => by
    have e1 : DL.iter o (l.map f) (n + 1) = if DL.ended o (l.map f) then none else DL.iter o (DL.next o (l.map f)) n := rfl
    have e2 : DL.iter r l (n + 1) = if DL.ended r l then none else DL.iter r (DL.next r l) n := rfl
    rw [e1, e2, h.ended ok hl]
    cases q : DL.ended r l with
    | true => rfl
    | false =>
      simp only [Bool.false_eq_true, if_false]
      rw [h.next ok hl q]
      exact h.iter ok n (hl.next ok)
theorem Ren.course (h : Ren r o f) (ok : r.Ok) : ∀ (n : Nat) {l : List Nat}, Lt r.ws.length l → courseM o (l.map f) n = (courseM r l n).map (List.map f)
  | 0, l, _ => rfl
  | n + 1, l, hl => by
    have e1 : courseM o (l.map f) (n + 1) = if DL.ended o (l.map f) then [l.map f] else l.map f :: courseM o (DL.next o (l.map f)) n := rfl
    have e2 : courseM r l (n + 1) = if DL.ended r l then [l] else l :: courseM r (DL.next r l) n := rfl
    rw [e1, e2, h.ended ok hl]
    cases q : DL.ended r l with
    | true => rfl
    | false =>
      simp only [Bool.false_eq_true, if_false]
      rw [h.next ok hl q, h.course ok n (hl.next ok)]
      rfl
theorem stepL_map (f : Nat → Nat) (c : Nat) (l : List Nat) : stepL c (l.map f) = (stepL c l).map f := by
  unfold stepL
  rw [List.length_map, List.map_filterMap]
  congr 1
  funext j
  rw [List.getElem?_map]
theorem Ren.whole (h : Ren r o f) {l : List Nat} (hl : Lt r.ws.length l) : whole o (l.map f) = whole r l := by
  unfold DL.whole
  rw [List.length_map, h.c, stepL_map, List.all_map]
  congr 1
  rw [Bool.eq_iff_iff, List.all_eq_true, List.all_eq_true]
  have key : ∀ c ∈ stepL r.cut l, (isSomeW o ∘ f) c = isSomeW r c := by
    intro c hc
    have := hl c (stepL_mem hc)
    show isSomeW o (f c) = _
    unfold isSomeW
    rw [h.w c this.1 this.2]
    cases wordOf r c <;> rfl
  exact ⟨fun z c hc => by rw [← key c hc]; exact z c hc, fun z c hc => by rw [key c hc]; exact z c hc⟩
theorem Ren.image (h : Ren r o f) {l : List Nat} (hl : Lt r.ws.length l) : imageM o (l.map f) = (imageM r l).map f := by
  unfold imageM
  rw [h.c, stepL_map]
  have hs : Lt r.ws.length (stepL r.cut l) := hl.step
  generalize stepL r.cut l = s at hs
  induction s with
  | nil => rfl
  | cons c s ih =>
    have hc := hs c (by simp)
    rw [List.map_cons, List.flatMap_cons, List.flatMap_cons, List.map_append, ih fun d hd => hs d (by simp [hd]), h.w c hc.1 hc.2]
    cases wordOf r c <;> rfl
theorem rp_map (f : Nat → Nat) (k : Nat) (p : List Nat) : rp k (p.map f) = (rp k p).map f := by
  induction k with
  | zero => rfl
  | succ k ih => rw [rp_succ, rp_succ, List.map_append, ih]
theorem Ren.rp_eq (h : Ren r o f) {p w : List Nat} (hp : Lt r.ws.length p) (hw : Lt r.ws.length w) (k : Nat) : rp k (p.map f) = w.map f ↔ rp k p = w := by
  rw [rp_map]
  exact ⟨fun e => h.inj (hp.rep k) hw e, fun e => by rw [e]⟩
theorem Ren.times (h : Ren r o f) {p w : List Nat} (hp : Lt r.ws.length p) (hw : Lt r.ws.length w) : timesOf (p.map f) (w.map f) = timesOf p w := by
  unfold timesOf
  rw [List.length_map, List.length_map]
  by_cases q : w.length % p.length = 0 ∧ rp (w.length / p.length) p = w
  · rw [if_pos q, if_pos ⟨q.1, (h.rp_eq hp hw _).mpr q.2⟩]
  · rw [if_neg q, if_neg fun z => q ⟨z.1, (h.rp_eq hp hw _).mp z.2⟩]
theorem image_ltN (ok : r.Ok) (l : List Nat) : Lt r.ws.length (imageM r l) := by
  intro c hc
  obtain ⟨d, hd, hcd⟩ := List.mem_flatMap.mp hc
  cases qw : wordOf r d with
  | none => rw [qw] at hcd; simp at hcd
  | some v => rw [qw] at hcd; exact (wordOf_ok ok qw).2 c hcd
theorem Ren.share (h : Ren r o f) (ok : r.Ok) {p : List Nat} (hp : Lt r.ws.length p) : shareM o (p.map f) = shareM r p := by
  unfold shareM
  rw [h.whole hp, h.image hp, h.times hp (image_ltN ok p)]
  by_cases q : p = []
  · subst q; rfl
  · have q' : ¬ p.map f = [] := by simpa using q
    simp only [q, q', false_or]
theorem Ren.cand (h : Ren r o f) (ok : r.Ok) {row : List Nat} (hl : Lt r.ws.length row) (n : Nat) : cand o (row.map f) n = cand r row n := by
  unfold DL.cand
  rw [← List.map_take, h.times (hl.take n) hl, h.share ok (hl.take n)]
def renP (f : Nat → Nat) (p : List Nat × Nat) : List Nat × Nat := (p.1.map f, p.2)
theorem Ren.partL (h : Ren r o f) (ok : r.Ok) {row : List Nat} (hl : Lt r.ws.length row) : ∀ ns : List Nat, partL o (row.map f) ns = (partL r row ns).map (renP f)
  | [] => rfl
  | n :: ns => by
    have e1 : ∀ (r : Ru) (row : List Nat), DL.partL r row (n :: ns) = match DL.cand r row n with
      | some k => some (row.take n, k)
      | none => DL.partL r row ns := fun _ _ => rfl
    rw [e1, e1, h.cand ok hl]
    cases DL.cand r row n with
    | none => exact h.partL ok hl ns
    | some k => rw [← List.map_take]; rfl
theorem Ren.part (h : Ren r o f) (ok : r.Ok) {row : List Nat} (hl : Lt r.ws.length row) : partM o (row.map f) = (partM r row).map (renP f) := by
  unfold partM
  rw [List.length_map]
  exact h.partL ok hl _
def Fate.ren (f : Nat → Nat) : Fate → Fate
  | .ends n l => .ends n (l.map f)
  | .round a p => .round a p
  | .grows n p k => .grows n (p.map f) k
  | .far n m => .far n m
theorem Ren.mem (h : Ren r o f) {row : List Nat} (hl : Lt r.ws.length row) : ∀ {rows : List (List Nat)}, (∀ x ∈ rows, Lt r.ws.length x) → (row.map f ∈ rows.map (List.map f) ↔ row ∈ rows) ∧ (rows.map (List.map f)).idxOf (row.map f) = rows.idxOf row
  | [], _ => ⟨by simp, rfl⟩
  | x :: rows, hr => by
    obtain ⟨i1, i2⟩ := h.mem hl (rows := rows) fun y hy => hr y (by simp [hy])
    have hx := hr x (by simp)
    have key : x.map f = row.map f ↔ x = row := ⟨fun e => h.inj hx hl e, fun e => by rw [e]⟩
    refine ⟨?_, ?_⟩
    · rw [List.map_cons, List.mem_cons, List.mem_cons, i1]
      exact ⟨fun z => z.elim (fun e => .inl (key.mp e.symm).symm) .inr, fun z => z.elim (fun e => .inl (by rw [e])) .inr⟩
    · rw [List.map_cons, List.idxOf_cons, List.idxOf_cons, i2]
      by_cases q : x = row
      · subst q; simp
      · have q' : ¬ x.map f = row.map f := fun e => q (key.mp e)
        have b1 : (x == row) = false := by simpa using q
        have b2 : (x.map f == row.map f) = false := by simpa using q'
        rw [b1, b2]
theorem Ren.fateL (h : Ren r o f) (ok : r.Ok) : ∀ (k : Nat) (rows : List (List Nat)) (row : List Nat), Lt r.ws.length row → (∀ x ∈ rows, Lt r.ws.length x) → fateL o k (rows.map (List.map f)) (row.map f) = (fateL r k rows row).ren f
  | 0, rows, row, _, _ => by
    show Fate.far _ _ = Fate.far _ _
    rw [List.length_map, List.length_map]
  | k + 1, rows, row, hl, hr => by
    rw [fateL_succ, fateL_succ, List.length_map, List.length_map, h.ended ok hl, h.part ok hl]
    obtain ⟨i1, i2⟩ := h.mem hl hr
    rw [i2]
    by_cases q : rows.length ≤ 200 ∧ row.length ≤ 120
    · rw [if_pos q, if_pos q]
      cases qe : DL.ended r row with
      | true => rfl
      | false =>
        simp only [Bool.false_eq_true, if_false]
        by_cases qm : row ∈ rows
        · rw [if_pos qm, if_pos (i1.mpr qm)]; rfl
        · rw [if_neg qm, if_neg fun z => qm (i1.mp z), h.next ok hl qe]
          have em : rows.map (List.map f) ++ [row.map f] = (rows ++ [row]).map (List.map f) := by simp
          have ih := h.fateL ok k (rows ++ [row]) (DL.next r row) (hl.next ok) (fun x hx => by
            rcases List.mem_append.mp hx with hx | hx
            · exact hr x hx
            · simp at hx; subst hx; exact hl)
          rw [em, ih]
          cases partM r row with
          | none => rfl
          | some pk =>
            obtain ⟨p, n⟩ := pk
            simp only [Option.map_some, renP]
            by_cases hn : 1 < n
            · rw [if_pos hn, if_pos hn]; rfl
            · rw [if_neg hn, if_neg hn]
    · rw [if_neg q, if_neg q]; rfl
theorem Ren.fate (h : Ren r o f) (ok : r.Ok) {row : List Nat} (hl : Lt r.ws.length row) : fateM o (row.map f) = (fateM r row).ren f := by
  have := h.fateL ok 1000 [] row hl (fun x hx => nomatch hx)
  exact this
theorem Ren.rootL (h : Ren r o f) {w : List Nat} (hw : Lt r.ws.length w) : ∀ ns : List Nat, rootL (w.map f) ns = renP f (rootL w ns)
  | [] => rfl
  | n :: ns => by
    have e1 : ∀ w : List Nat, DL.rootL w (n :: ns) = if w.length % n = 0 ∧ rp (w.length / n) (w.take n) = w then (w.take n, w.length / n) else DL.rootL w ns := fun _ => rfl
    rw [e1, e1, List.length_map, ← List.map_take]
    by_cases q : w.length % n = 0 ∧ rp (w.length / n) (w.take n) = w
    · rw [if_pos q, if_pos ⟨q.1, (h.rp_eq (hw.take n) hw _).mpr q.2⟩]; rfl
    · rw [if_neg q, if_neg fun z => q ⟨z.1, (h.rp_eq (hw.take n) hw _).mp z.2⟩]
      exact h.rootL hw ns
theorem Ren.root (h : Ren r o f) {w : List Nat} (hw : Lt r.ws.length w) : rootM (w.map f) = renP f (rootM w) := by
  unfold rootM
  rw [List.length_map]
  exact h.rootL hw _
/-! ### orders -/
theorem leN_total (a b : List Nat) : (leN a b || leN b a) = true := by
  unfold leN
  rw [Bool.or_eq_true]
  simp only [Bool.not_eq_true', decide_eq_false_iff_not]
  by_cases h : b < a
  · exact .inr (List.lt_asymm h)
  · exact .inl h
theorem leN_trans (a b c : List Nat) (h1 : leN a b = true) (h2 : leN b c = true) : leN a c = true := by
  unfold leN at *
  simp only [Bool.not_eq_true', decide_eq_false_iff_not, List.not_lt] at *
  exact List.le_trans h1 h2
theorem leN_anti {a b : List Nat} (h1 : leN a b = true) (h2 : leN b a = true) : a = b := by
  unfold leN at *
  simp only [Bool.not_eq_true', decide_eq_false_iff_not, List.not_lt] at *
  exact List.le_antisymm h1 h2
theorem sortN_perm {xs ys : List (List Nat)} (h : xs.Perm ys) : sortN xs = sortN ys := by
  refine List.Perm.eq_of_pairwise (le := fun a b => leN a b = true) (fun a b _ _ h1 h2 => leN_anti h1 h2) ?_ ?_ ((List.mergeSort_perm xs leN).trans (h.trans (List.mergeSort_perm ys leN).symm))
  · exact List.pairwise_mergeSort (fun a b c => leN_trans a b c) leN_total xs
  · exact List.pairwise_mergeSort (fun a b c => leN_trans a b c) leN_total ys
theorem Ren.lets (h : Ren r o f) (ok : r.Ok) : ((lets r).map f).Perm (lets r) := by
  have n1 := ok.n1
  have n3 := ok.n3
  have : r.ws.length = 1 ∨ r.ws.length = 2 ∨ r.ws.length = 3 := by omega
  unfold DL.lets
  rcases this with e | e | e
  · have m1 := h.m 97 (by omega) (by omega)
    rw [e] at *
    have a1 : f 97 = 97 := by omega
    simp [a1]
  · have m1 := h.m 97 (by omega) (by omega)
    have m2 := h.m 98 (by omega) (by omega)
    have i12 : f 97 ≠ f 98 := fun z => absurd (h.i 97 98 (by omega) (by omega) (by omega) (by omega) z) (by omega)
    rw [e] at *
    have : (f 97 = 97 ∧ f 98 = 98) ∨ (f 97 = 98 ∧ f 98 = 97) := by omega
    rcases this with ⟨a1, a2⟩ | ⟨a1, a2⟩
    · simp [a1, a2]
    · simp [a1, a2]; decide
  · have m1 := h.m 97 (by omega) (by omega)
    have m2 := h.m 98 (by omega) (by omega)
    have m3 := h.m 99 (by omega) (by omega)
    have i12 : f 97 ≠ f 98 := fun z => absurd (h.i 97 98 (by omega) (by omega) (by omega) (by omega) z) (by omega)
    have i13 : f 97 ≠ f 99 := fun z => absurd (h.i 97 99 (by omega) (by omega) (by omega) (by omega) z) (by omega)
    have i23 : f 98 ≠ f 99 := fun z => absurd (h.i 98 99 (by omega) (by omega) (by omega) (by omega) z) (by omega)
    rw [e] at *
    have : (f 97 = 97 ∧ f 98 = 98 ∧ f 99 = 99) ∨ (f 97 = 97 ∧ f 98 = 99 ∧ f 99 = 98) ∨ (f 97 = 98 ∧ f 98 = 97 ∧ f 99 = 99) ∨ (f 97 = 98 ∧ f 98 = 99 ∧ f 99 = 97) ∨ (f 97 = 99 ∧ f 98 = 97 ∧ f 99 = 98) ∨ (f 97 = 99 ∧ f 98 = 98 ∧ f 99 = 97) := by omega
    rcases this with ⟨a1, a2, a3⟩ | ⟨a1, a2, a3⟩ | ⟨a1, a2, a3⟩ | ⟨a1, a2, a3⟩ | ⟨a1, a2, a3⟩ | ⟨a1, a2, a3⟩ <;> simp [a1, a2, a3] <;> decide
theorem Ren.letsEq (h : Ren r o f) : DL.lets o = DL.lets r := by unfold DL.lets; rw [h.n]
theorem perm_grow {ls : List Nat} (hp : (ls.map f).Perm ls) {os os' : List (List Nat)} (h : os'.Perm (os.map (List.map f))) : (growL ls os').Perm ((growL ls os).map (List.map f)) := by
  have h1 : (growL ls os').Perm (growL ls (os.map (List.map f))) := h.flatMap_right _
  refine h1.trans ?_
  clear h1 h
  induction os with
  | nil => exact .nil
  | cons x os ih =>
    have e1 : growL ls ((x :: os).map (List.map f)) = (ls.map fun c => x.map f ++ [c]) ++ growL ls (os.map (List.map f)) := by simp [growL]
    have e2 : (growL ls (x :: os)).map (List.map f) = ((ls.map f).map fun c => x.map f ++ [c]) ++ (growL ls os).map (List.map f) := by
      have : growL ls (x :: os) = (ls.map fun c => x ++ [c]) ++ growL ls os := by simp [growL]
      rw [this, List.map_append, List.map_map, List.map_map]
      congr 1
      apply List.map_congr_left
      intro c _
      simp
    rw [e1, e2]
    exact (hp.symm.map _).append ih
theorem perm_heads {ls : List Nat} (hp : (ls.map f).Perm ls) : ∀ (n : Nat) {os os' : List (List Nat)}, os'.Perm (os.map (List.map f)) → (heads ls n os').Perm ((heads ls n os).map (List.map f))
  | 0, _, _, h => h
  | n + 1, _, _, h => perm_heads hp n (perm_grow hp h)
theorem perm_upL {ls : List Nat} (hp : (ls.map f).Perm ls) : ∀ (n : Nat) {os os' : List (List Nat)}, os'.Perm (os.map (List.map f)) → (upL ls n os').Perm ((upL ls n os).map (List.map f))
  | 0, _, _, _ => .nil
  | n + 1, os, os', h => by
    rw [upL, upL, List.map_append]
    exact (perm_grow hp h).append (perm_upL hp n (perm_grow hp h))
theorem Ren.upTo (h : Ren r o f) (ok : r.Ok) (n : Nat) : (upTo o.ws.length n).Perm ((upTo r.ws.length n).map (List.map f)) := by
  rw [h.n]
  unfold DL.upTo
  rw [List.map_cons]
  exact (perm_upL (h.lets ok) n (os := [[]]) (os' := [[]]) (List.Perm.refl _)).cons []
theorem Ren.wordsN (h : Ren r o f) (ok : r.Ok) (n : Nat) : (wordsN o n).Perm ((wordsN r n).map (List.map f)) := by
  unfold DL.wordsN
  rw [h.letsEq]
  exact perm_heads (h.lets ok) n (os := [[]]) (os' := [[]]) (List.Perm.refl _)
theorem Ren.aheadC (h : Ren r o f) (ok : r.Ok) {l : List Nat} (hl : Lt r.ws.length l) {c : Nat} (h1 : 97 ≤ c) (h2 : c < 97 + r.ws.length) : (aheadC o (l.map f) (f c)).Perm ((aheadC r l c).map (List.map f)) := by
  unfold DL.aheadC
  rw [h.w c h1 h2]
  cases q : wordOf r c with
  | none => exact .nil
  | some w =>
    have hw := (wordOf_ok ok q).2
    simp only [Option.map_some]
    rw [List.length_map, List.length_map, ← List.map_drop]
    by_cases e : l.drop (l.length - w.length) = w
    · rw [if_pos e, if_pos (by rw [e]), h.letsEq, h.c, List.map_map, ← List.map_take]
      have hp := perm_heads (h.lets ok) (r.cut - 1) (os := [[c]]) (os' := [[f c]]) (List.Perm.refl _)
      have := hp.map fun x => x ++ (l.take (l.length - w.length)).map f
      rw [List.map_map] at this
      refine this.trans ?_
      have e2 : ((fun x => x ++ List.map f (List.take (l.length - w.length) l)) ∘ List.map f) = (List.map f ∘ fun x => x ++ List.take (l.length - w.length) l) := by
        funext x
        simp
      rw [e2]
    · rw [if_neg e, if_neg fun z => e (h.inj (hl.drop _) hw z)]
      exact .nil
theorem perm_flat {α β : Type} {g g' : α → List β} : ∀ {l : List α}, (∀ a ∈ l, (g a).Perm (g' a)) → (l.flatMap g).Perm (l.flatMap g')
  | [], _ => .nil
  | a :: l, h => by
    rw [List.flatMap_cons, List.flatMap_cons]
    exact (h a (by simp)).append (perm_flat fun b hb => h b (by simp [hb]))
theorem Ren.ahead (h : Ren r o f) (ok : r.Ok) {l : List Nat} (hl : Lt r.ws.length l) : aheadM o (l.map f) = sortN ((aheadM r l).map (List.map f)) := by
  unfold aheadM
  apply sortN_perm
  have h1 : (aheadU o (l.map f)).Perm ((aheadU r l).map (List.map f)) := by
    unfold aheadU
    rw [h.letsEq]
    refine ((h.lets ok).symm.flatMap_right _).trans ?_
    rw [List.map_flatMap, List.flatMap_map]
    refine perm_flat fun c hc => ?_
    have := (mem_lets ok).mp hc
    exact h.aheadC ok hl this.1 this.2
  exact h1.trans ((List.mergeSort_perm (aheadU r l) leN).symm.map _)
theorem isE_ren (x : Fate) : isE (x.ren f) = isE x := by cases x <;> rfl
theorem isR_ren (x : Fate) : isR (x.ren f) = isR x := by cases x <;> rfl
theorem isG_ren (x : Fate) : isG (x.ren f) = isG x := by cases x <;> rfl
theorem isF_ren (x : Fate) : isF (x.ren f) = isF x := by cases x <;> rfl
theorem Ren.cnt (h : Ren r o f) (ok : r.Ok) (n : Nat) : cnt4 ((DL.upTo o.ws.length n).map (fateM o)) = cnt4 ((DL.upTo r.ws.length n).map (fateM r)) := by
  have key : ((DL.upTo o.ws.length n).map (fateM o)).Perm ((DL.upTo r.ws.length n).map fun w => (fateM r w).ren f) := by
    refine ((h.upTo ok n).map _).trans ?_
    rw [List.map_map]
    have e : (DL.upTo r.ws.length n).map (fateM o ∘ List.map f) = (DL.upTo r.ws.length n).map fun w => (fateM r w).ren f := by
      apply List.map_congr_left
      intro w hw
      exact h.fate ok ((mem_upTo ok.n3).mp hw).1
    rw [e]
  have cp : ∀ p : Fate → Bool, (∀ x, p (Fate.ren f x) = p x) → ((DL.upTo o.ws.length n).map (fateM o)).countP p = ((DL.upTo r.ws.length n).map (fateM r)).countP p := by
    intro p hp
    rw [key.countP_eq, List.countP_map, List.countP_map]
    congr 1
    funext w
    exact hp (fateM r w)
  unfold cnt4
  rw [cp isE isE_ren, cp isR isR_ren, cp isG isG_ren, cp isF isF_ren]
theorem Ren.parts (h : Ren r o f) (ok : r.Ok) (n : Nat) : (partsL o n).length = (partsL r n).length := by
  unfold partsL
  have key := (h.wordsN ok n).filterMap (fun w => (shareM o w).map fun k => (w, k))
  rw [key.length_eq, List.filterMap_map]
  have hm := fun w (hw : w ∈ DL.wordsN r n) => (wordsN_mem ok hw).2
  generalize DL.wordsN r n = ws at hm
  induction ws with
  | nil => rfl
  | cons w ws ih =>
    rw [List.filterMap_cons, List.filterMap_cons]
    simp only [Function.comp_apply]
    rw [h.share ok (hm w (by simp))]
    have ih := ih fun w hw => hm w (by simp [hw])
    cases shareM r w with
    | none => exact ih
    | some k =>
      simp only [Option.map_some, List.length_cons]
      exact congrArg (· + 1) ih
end
end DL
namespace DL
open PySem PySem.Spec L2
/-! ## rows that come round -/
/-- a row that is gone over on the way -/
def OnWay (r : Ru) (y : List Nat) : Prop := y.length ≤ 120 ∧ ended r y = false ∧ ∀ q k, partM r y = some (q, k) → ¬ 1 < k
structure Way (r : Ru) (row0 : List Nat) (rows : List (List Nat)) (x : List Nat) : Prop where
  tr : Trace r row0 rows x
  nd : rows.Nodup
  on : ∀ y ∈ rows, OnWay r y
theorem Way.start (r : Ru) (row : List Nat) : Way r row [] row := ⟨fun i hi => by
  have : i = 0 := by simpa using hi
  subst this; rfl, List.nodup_nil, fun y hy => nomatch hy⟩
theorem Way.step {r : Ru} {row0 row : List Nat} {rows : List (List Nat)} (w : Way r row0 rows row) (o : OnWay r row) (n : row ∉ rows) : Way r row0 (rows ++ [row]) (next r row) :=
  ⟨w.tr.step o.2.1, List.nodup_append.mpr ⟨w.nd, by simp, fun a ha b hb e => by simp at hb; subst hb; exact n (e ▸ ha)⟩, fun y hy => by
    rcases List.mem_append.mp hy with h | h
    · exact w.on y h
    · simp at h; subst h; exact o⟩
theorem round_spec {r : Ru} {row0 : List Nat} {a p : Nat} : ∀ (f : Nat) (rows : List (List Nat)) (row : List Nat), Way r row0 rows row → fateL r f rows row = .round a p →
    ∃ rows' x, Way r row0 rows' x ∧ x ∈ rows' ∧ a = rows'.idxOf x ∧ p = rows'.length - rows'.idxOf x ∧ rows'.length ≤ 200
  | 0, rows, row, _, h => by cases h
  | f + 1, rows, row, w, h => by
    rw [fateL_succ] at h
    split at h
    · rename_i q
      split at h
      · cases h
      · rename_i qe
        split at h
        · rename_i qm
          cases h
          exact ⟨rows, row, w, qm, rfl, rfl, q.1⟩
        · rename_i qm
          have ef : ended r row = false := by simpa using qe
          split at h
          · rename_i pq k qp
            split at h
            · cases h
            · rename_i hk
              exact round_spec f _ _ (w.step ⟨q.2, ef, fun q2 k2 e => by rw [qp] at e; cases e; exact hk⟩ qm) h
          · rename_i qp
            exact round_spec f _ _ (w.step ⟨q.2, ef, fun q2 k2 e => by rw [qp] at e; cases e⟩ qm) h
    · cases h
/-- one step of the look -/
theorem fate_go {r : Ru} {f : Nat} {rows : List (List Nat)} {row : List Nat} (hl : rows.length ≤ 200) (o : OnWay r row) (n : row ∉ rows) : fateL r (f + 1) rows row = fateL r f (rows ++ [row]) (next r row) := by
  rw [fateL_succ, if_pos ⟨hl, o.1⟩, o.2.1]
  simp only [Bool.false_eq_true, if_false, if_neg n]
  cases q : partM r row with
  | none => rfl
  | some pk =>
    obtain ⟨p, k⟩ := pk
    simp only
    rw [if_neg (o.2.2 p k q)]
theorem fate_met {r : Ru} {f : Nat} {rows : List (List Nat)} {row : List Nat} (hl : rows.length ≤ 200) (o : OnWay r row) (n : row ∈ rows) : fateL r (f + 1) rows row = .round (rows.idxOf row) (rows.length - rows.idxOf row) := by
  rw [fateL_succ, if_pos ⟨hl, o.1⟩, o.2.1]
  simp only [Bool.false_eq_true, if_false, if_pos n]
/-- a way that is told comes back to its fate -/
theorem fate_run {r : Ru} : ∀ (more rows : List (List Nat)) (row x : List Nat) (f : Nat), (∀ i, i ≤ more.length → iter r row i = (more ++ [x])[i]?) → (∀ y ∈ more, OnWay r y) → (rows ++ more).Nodup → (rows ++ more).length ≤ 200 →
    fateL r (f + more.length) rows row = fateL r f (rows ++ more) x
  | [], rows, row, x, f, t, _, _, _ => by
    have := t 0 (Nat.le_refl _)
    simp [iter] at this
    subst this
    simp
  | y :: more, rows, row, x, f, t, on, nd, hl => by
    have e0 := t 0 (Nat.zero_le _)
    simp [iter] at e0
    subst e0
    have o := on row List.mem_cons_self
    have nn : row ∉ rows := fun h => (List.nodup_append.mp nd).2.2 row h row List.mem_cons_self rfl
    have hl2 : rows.length + (more.length + 1) ≤ 200 := by simpa using hl
    rw [show f + (row :: more).length = (f + more.length) + 1 by simp; omega, fate_go (by omega) o nn]
    have e1 : rows ++ row :: more = (rows ++ [row]) ++ more := by simp
    rw [e1] at nd hl ⊢
    refine fate_run more (rows ++ [row]) (next r row) x f (fun i hi => ?_) (fun y hy => on y (List.mem_cons_of_mem _ hy)) nd hl
    have := t (i + 1) (by simp; omega)
    rw [show iter r row (i + 1) = if ended r row then none else iter r (next r row) i from rfl, o.2.1] at this
    simpa using this
theorem fate_round {r : Ru} {row x : List Nat} {rows : List (List Nat)} (w : Way r row rows x) (hx : x ∈ rows) (hl : rows.length ≤ 200) : fateM r row = .round (rows.idxOf x) (rows.length - rows.idxOf x) := by
  unfold fateM
  rw [show 1000 = (999 - rows.length + 1) + rows.length by omega, fate_run rows [] row x _ w.tr w.on (by simpa using w.nd) (by simpa using hl), List.nil_append]
  exact fate_met hl (w.on x hx) hx
/-! ### rings -/
/-- row i of a ring -/
abbrev at' (rows : List (List Nat)) (i : Nat) : List Nat := rows.getD i []
structure Ring (r : Ru) (rows : List (List Nat)) : Prop where
  pos : 0 < rows.length
  nd : rows.Nodup
  on : ∀ i, i < rows.length → ended r (at' rows i) = false ∧ next r (at' rows i) = at' rows ((i + 1) % rows.length)
theorem at'_mem {rows : List (List Nat)} {i : Nat} (h : i < rows.length) : at' rows i ∈ rows := by
  unfold at'
  rw [List.getD_eq_getElem?_getD, List.getElem?_eq_getElem h]
  exact List.getElem_mem h
theorem at'_get {rows : List (List Nat)} {i : Nat} (h : i < rows.length) : rows[i]? = some (at' rows i) := by
  unfold at'
  rw [List.getD_eq_getElem?_getD, List.getElem?_eq_getElem h]
  rfl
theorem nodup_inj {α : Type} : ∀ {l : List α}, l.Nodup → ∀ {i j : Nat} (hi : i < l.length) (hj : j < l.length), l[i] = l[j] → i = j
  | _ :: _, _, 0, 0, _, _, _ => rfl
  | a :: l, nd, 0, j + 1, _, hj, e => by
    simp only [List.getElem_cons_zero, List.getElem_cons_succ] at e
    exact absurd (e ▸ List.getElem_mem (by simpa using hj)) (List.nodup_cons.mp nd).1
  | a :: l, nd, i + 1, 0, hi, _, e => by
    simp only [List.getElem_cons_zero, List.getElem_cons_succ] at e
    exact absurd (e ▸ List.getElem_mem (by simpa using hi)) (List.nodup_cons.mp nd).1
  | a :: l, nd, i + 1, j + 1, hi, hj, e => by
    simp only [List.getElem_cons_succ] at e
    rw [nodup_inj (List.nodup_cons.mp nd).2 (by simpa using hi) (by simpa using hj) e]
theorem at'_inj {rows : List (List Nat)} (nd : rows.Nodup) {i j : Nat} (hi : i < rows.length) (hj : j < rows.length) (e : at' rows i = at' rows j) : i = j := by
  have a := at'_get hi
  have b := at'_get hj
  rw [e, ← b, List.getElem?_eq_getElem hi, List.getElem?_eq_getElem hj] at a
  exact nodup_inj nd hi hj (Option.some.inj a)
def rot (k : Nat) (rows : List (List Nat)) : List (List Nat) := rows.drop k ++ rows.take k
theorem rot_len (k : Nat) (rows : List (List Nat)) : (rot k rows).length = rows.length := by
  unfold rot
  rw [List.length_append, List.length_drop, List.length_take]
  omega
theorem rot_perm (k : Nat) (rows : List (List Nat)) : (rot k rows).Perm rows := by
  unfold rot
  exact List.perm_append_comm.trans (by rw [List.take_append_drop])
theorem rot_at {k i : Nat} {rows : List (List Nat)} (hk : k < rows.length) (hi : i < rows.length) : at' (rot k rows) i = at' rows ((i + k) % rows.length) := by
  unfold at' rot
  rw [List.getD_eq_getElem?_getD, List.getD_eq_getElem?_getD]
  congr 1
  by_cases h : i < rows.length - k
  · rw [List.getElem?_append_left (by rw [List.length_drop]; exact h), List.getElem?_drop, Nat.mod_eq_of_lt (by omega), Nat.add_comm]
  · rw [List.getElem?_append_right (by rw [List.length_drop]; omega), List.length_drop, List.getElem?_take_of_lt (by omega)]
    congr 1
    rw [Nat.mod_eq_sub_mod (by omega), Nat.mod_eq_of_lt (by omega)]
    omega
theorem Ring.rot {r : Ru} {rows : List (List Nat)} (h : Ring r rows) {k : Nat} (hk : k < rows.length) : Ring r (rot k rows) := by
  refine ⟨by rw [rot_len]; exact h.pos, (rot_perm k rows).nodup_iff.mpr h.nd, fun i hi => ?_⟩
  rw [rot_len] at hi ⊢
  have p := h.pos
  rw [rot_at hk hi, rot_at hk (Nat.mod_lt _ p)]
  obtain ⟨a, b⟩ := h.on ((i + k) % rows.length) (Nat.mod_lt _ p)
  refine ⟨a, b.trans ?_⟩
  congr 1
  rw [Nat.mod_add_mod, Nat.mod_add_mod]
  congr 1
  omega
/-- the rows from x on, if it comes to itself -/
theorem ring_of_way {r : Ru} {row x : List Nat} {rows : List (List Nat)} (w : Way r row rows x) (hx : x ∈ rows) : Ring r (rows.drop (rows.idxOf x)) := by
  have hi : rows.idxOf x < rows.length := List.idxOf_lt_length_of_mem hx
  have ex : rows[rows.idxOf x]? = some x := by rw [List.getElem?_eq_getElem hi]; exact congrArg some (List.getElem_idxOf hi)
  refine ⟨by rw [List.length_drop]; omega, (List.drop_sublist _ _).nodup w.nd, fun i hi2 => ?_⟩
  rw [List.length_drop] at hi2 ⊢
  have hj : rows.idxOf x + i < rows.length := by omega
  have e1 : at' (rows.drop (rows.idxOf x)) i = at' rows (rows.idxOf x + i) := by
    unfold at'
    rw [List.getD_eq_getElem?_getD, List.getD_eq_getElem?_getD, List.getElem?_drop]
  have on := w.on _ (at'_mem hj)
  rw [e1]
  refine ⟨on.2.1, ?_⟩
  have t0 := w.tr (rows.idxOf x + i) (by omega)
  have t1 := w.tr (rows.idxOf x + i + 1) (by omega)
  rw [List.getElem?_append_left hj, at'_get hj] at t0
  rw [iter_snoc, t0, Option.bind_some, on.2.1] at t1
  simp only [Bool.false_eq_true, if_false] at t1
  by_cases q : i + 1 < rows.length - rows.idxOf x
  · rw [Nat.mod_eq_of_lt q]
    rw [List.getElem?_append_left (by omega), at'_get (by omega)] at t1
    have e2 : at' (rows.drop (rows.idxOf x)) (i + 1) = at' rows (rows.idxOf x + i + 1) := by
      unfold at'
      rw [List.getD_eq_getElem?_getD, List.getD_eq_getElem?_getD, List.getElem?_drop]
      rfl
    rw [e2]
    exact Option.some.inj t1
  · have e3 : i + 1 = rows.length - rows.idxOf x := by omega
    rw [e3, Nat.mod_self]
    rw [show rows.idxOf x + i + 1 = rows.length by omega, List.getElem?_append_right (Nat.le_refl _)] at t1
    simp only [Nat.sub_self, List.getElem?_cons_zero, Option.some.injEq] at t1
    refine t1.trans ?_
    unfold at'
    rw [List.getD_eq_getElem?_getD, List.getElem?_drop, Nat.add_zero, ex]
    rfl
end DL
namespace DL
open PySem PySem.Spec L2
def f__law_ring : DS := sSeq (sAsg 2 (eCall 2 M__law_fate (aCons (eVar 0) (aCons (eVar 1) (aNil))))) (sSeq (sIf (t2 dNe (e2 dIx (eVar 2) (eC (.int 0))) (eC (.str "round"))) (sRet (eC .none)) (sNil)) (sSeq (sAsg 3 (eCut (eCall 3 M__law_course (aCons (eVar 0) (aCons (eVar 1) (aCons (e2 dSub (e2 dAdd (e2 dIx (eVar 2) (eC (.int 1))) (e2 dIx (eVar 2) (eC (.int 2)))) (eC (.int 1))) (aNil))))) (oSome (e2 dIx (eVar 2) (eC (.int 1)))) (oNone))) (sSeq (sAsg 4 (eM "list" dLIdx (eVar 3) (aCons (eB dMin (aCons (eVar 3) (aNil))) (aNil)))) (sRet (e2 dAdd (eCut (eVar 3) (oSome (eVar 4)) (oNone)) (eCut (eVar 3) (oNone) (oSome (eVar 4))))))))
def M__law_ring : List D → Rs D := fun ds => outD (f__law_ring (startE 5 ds))

def f_ring_of : DS := sSeq (sAsg 2 (eCall 2 M_fate_of (aCons (eVar 0) (aCons (eVar 1) (aNil))))) (sSeq (sIf (t2 dNe (e2 dIx (eVar 2) (eC (.int 0))) (eC (.str "round"))) (sRet (eC .none)) (sNil)) (sSeq (sFor (iR1 (aCons (e2 dIx (eVar 2) (eC (.int 1))) (aNil))) (gN 3) (sAsg 1 (eCall 2 M_next_of (aCons (eVar 0) (aCons (eVar 1) (aNil)))))) (sSeq (sOwn 4 (nLst (aCons (eVar 1) (aNil)))) (sSeq (sFor (iR1 (aCons (e2 dSub (e2 dIx (eVar 2) (eC (.int 2))) (eC (.int 1))) (aNil))) (gN 3) (sApp 4 (eCall 2 M_next_of (aCons (eVar 0) (aCons (e2 dIx (eVarB 4) (e1 dNeg (eC (.int 1)))) (aNil)))))) (sSeq (sAsg 5 (eM "list" dLIdx (eVarB 4) (aCons (eB dMin (aCons (eVarB 4) (aNil))) (aNil)))) (sRet (e2 dAdd (eCut (eVarB 4) (oSome (eVar 5)) (oNone)) (eCut (eVarB 4) (oNone) (oSome (eVar 5))))))))))
def M_ring_of : List D → Rs D := fun ds => outD (f_ring_of (startE 6 ds))

def f_ring : DS := sSeq (sExpr (eCall 2 M_look_row (aCons (eVar 0) (aCons (eVar 1) (aNil))))) (sRet (eCall 2 M_ring_of (aCons (eVar 0) (aCons (eVar 1) (aNil)))))
def M_ring : List D → Rs D := fun ds => outD (f_ring (startE 2 ds))

def f_rings : DS := sSeq (sExpr (eCall 1 M_look (aCons (eVar 0) (aNil)))) (sSeq (sIf (tNot (tTru (eCall 3 M_is_within (aCons (eVar 1) (aCons (eC (.int 0)) (aCons (eC (.int 4)) (aNil))))))) (sRaise "BadCount") (sNil)) (sSeq (sNewK 2) (sSeq (sFor (iSeq (eCall 2 M_words_to (aCons (eB dLen (aCons (e2 dIx (eVar 0) (eC (.int 1))) (aNil))) (aCons (eVar 1) (aNil))))) (gN 3) (sSeq (sAsg 4 (eCall 2 M_ring_of (aCons (eVar 0) (aCons (eVar 3) (aNil))))) (sIf (t2 dIsNot (eVar 4) (eC .none)) (sPutK 2 (e2 dIx (eVar 4) (eC (.int 0))) (eC (.bool true))) (sNil)))) (sRet (eFz (nSortKA 2))))))
def M_rings : List D → Rs D := fun ds => outD (f_rings (startE 5 ds))

def f_is_any_row : DS := sRet (eAnd (eIsi "str" (eVar 1)) (eNot (eFz (nLc [2] (iSeq (eVar 1)) (gN 2) (t2 dNotIn (eVar 2) (eCut (eC (.str "abc")) (oNone) (oSome (eB dLen (aCons (e2 dIx (eVar 0) (eC (.int 1))) (aNil)))))) (eVar 2)))))
def M_is_any_row : List D → Rs D := fun ds => outD (f_is_any_row (startE 3 ds))

def f_is_ring : DS := sSeq (sExpr (eCall 1 M_look (aCons (eVar 0) (aNil)))) (sSeq (sIf (tOr (tNot (tTru (eIsi "list" (eVar 1)))) (tOr (tNot (tTru (eVar 1))) (tTru (eFz (nLc [2] (iSeq (eVar 1)) (gN 2) (tNot (tTru (eCall 2 M_is_any_row (aCons (eVar 0) (aCons (eVar 2) (aNil)))))) (eVar 2)))))) (sRet (eC (.bool false))) (sNil)) (sSeq (sIf (tOr (t2 dNe (eLenSet (eVar 1)) (eB dLen (aCons (eVar 1) (aNil)))) (tTru (eFz (nLc [2] (iSeq (eVar 1)) (gN 2) (tTru (eCall 2 M_has_ended (aCons (eVar 0) (aCons (eVar 2) (aNil))))) (eVar 2))))) (sRet (eC (.bool false))) (sNil)) (sRet (eNot (eFz (nLc [2, 3] (iZ2 (aCons (eVar 1) (aCons (e2 dAdd (eCut (eVar 1) (oSome (eC (.int 1))) (oNone)) (eCut (eVar 1) (oNone) (oSome (eC (.int 1))))) (aNil)))) (gN2 2 3) (t2 dNe (eCall 2 M_next_of (aCons (eVar 0) (aCons (eVar 2) (aNil)))) (eVar 3)) (eC (.int 1))))))))
def M_is_ring : List D → Rs D := fun ds => outD (f_is_ring (startE 4 ds))

def f__law_up_to : DS := sSeq (sAsg 2 (eFz (nLst (aNil)))) (sSeq (sFor (iR1 (aCons (e2 dAdd (eVar 1) (eC (.int 1))) (aNil))) (gN 3) (sAsg 2 (e2 dAdd (eVar 2) (eCall 2 M__law_every (aCons (eVar 0) (aCons (eVar 3) (aNil))))))) (sRet (eVar 2)))
def M__law_up_to : List D → Rs D := fun ds => outD (f__law_up_to (startE 4 ds))

end DL
namespace DL
open PySem PySem.Spec L2
/-! ### the least of texts -/
theorem leS_S (a b : List Nat) : leS (S a) (S b) = leN a b := by simp [leS, leN]
def minL (ls : List (List Nat)) : List Nat := (sortN ls).headD []
theorem minL_spec {ls : List (List Nat)} (h : ls ≠ []) : minL ls ∈ ls ∧ ∀ y ∈ ls, leN (minL ls) y = true := by
  unfold minL
  have hp : (sortN ls).Perm ls := List.mergeSort_perm ls leN
  have pw : (sortN ls).Pairwise fun a b => leN a b = true := List.pairwise_mergeSort (fun a b c => leN_trans a b c) leN_total ls
  cases q : sortN ls with
  | nil => rw [q] at hp; exact absurd hp.symm.eq_nil h
  | cons a r =>
    rw [q] at hp pw
    refine ⟨hp.mem_iff.mp List.mem_cons_self, fun y hy => ?_⟩
    rcases List.mem_cons.mp (hp.mem_iff.mpr hy) with rfl | hy
    · have := leN_total y y
      simpa using this
    · exact (List.pairwise_cons.mp pw).1 y hy
theorem v_min {ls : List (List Nat)} (h : ls ≠ []) : dMin [.list (ls.map sD)] = some (sD (minL ls)) := by
  obtain ⟨h1, h2⟩ := minL_spec h
  have e : ls.map sD = (ls.map S).map PyData.str := by simp
  show (match strsOf (ls.map sD) with | some xs => (minS xs).map PyData.str | none => (intsOf (ls.map sD)).bind fun ns => (minI ns).map PyData.int) = _
  rw [e, strsOf_map]
  simp only
  rw [minS_unique (m := S (minL ls)) (List.mem_map_of_mem h1) (fun y hy => by
    obtain ⟨z, hz, rfl⟩ := List.mem_map.mp hy
    rw [leS_S]; exact h2 z hz)]
  rfl
theorem cutL_from {α : Type} (xs : List α) (k : Nat) : cutL xs (some (k : Int)) none = xs.drop k := by
  unfold cutL
  simp only [HT.sIx_nat, HT.sIx_none]
  rw [List.take_of_length_le (by simp)]
  by_cases h : k ≤ xs.length
  · rw [Nat.min_eq_left h]
  · rw [Nat.min_eq_right (by omega), List.drop_of_length_le (Nat.le_refl _), List.drop_of_length_le (by omega)]
theorem cutL_to {α : Type} (xs : List α) (k : Nat) : cutL xs none (some (k : Int)) = xs.take k := by
  unfold cutL
  simp only [HT.sIx_nat, HT.sIx_none, List.drop_zero, Nat.sub_zero]
  by_cases h : k ≤ xs.length
  · rw [Nat.min_eq_left h]
  · rw [Nat.min_eq_right (by omega), List.take_of_length_le (Nat.le_refl _), List.take_of_length_le (by omega)]
/-! ### courses by iter -/
theorem courseM_iter (r : Ru) : ∀ (n : Nat) (l y : List Nat), iter r l n = some y → (courseM r l n).length = n + 1 ∧ ∀ i, i ≤ n → (courseM r l n)[i]? = iter r l i
  | 0, l, y, _ => ⟨rfl, fun i hi => by
    have : i = 0 := by omega
    subst this; rfl⟩
  | n + 1, l, y, h => by
    have e1 : iter r l (n + 1) = if ended r l then none else iter r (next r l) n := rfl
    rw [e1] at h
    split at h
    · cases h
    · rename_i q
      obtain ⟨a, b⟩ := courseM_iter r n _ _ h
      have e2 : courseM r l (n + 1) = l :: courseM r (next r l) n := by simp [courseM, q]
      rw [e2]
      refine ⟨by simp [a], fun i hi => ?_⟩
      cases i with
      | zero => rfl
      | succ i =>
        rw [List.getElem?_cons_succ, b i (by omega)]
        simp [iter, q]
theorem course_way {r : Ru} {row x : List Nat} {rows : List (List Nat)} (w : Way r row rows x) (h : 0 < rows.length) : courseM r row (rows.length - 1) = rows := by
  have t := w.tr (rows.length - 1) (by omega)
  rw [List.getElem?_append_left (by omega), List.getElem?_eq_getElem (by omega)] at t
  obtain ⟨a, b⟩ := courseM_iter r _ row _ t
  apply List.ext_getElem?
  intro i
  by_cases hi : i ≤ rows.length - 1
  · rw [b i hi, w.tr i (by omega), List.getElem?_append_left (by omega)]
  · rw [List.getElem?_eq_none (by omega), List.getElem?_eq_none (by omega)]
/-! ### the ring that a row comes to -/
def rotMin (rows : List (List Nat)) : List (List Nat) := rot (rows.idxOf (minL rows)) rows
def ringM (r : Ru) (row : List Nat) : Option (List (List Nat)) := match fateM r row with
  | .round a p => some (rotMin ((courseM r row (a + p - 1)).drop a))
  | _ => none
def rgD : Option (List (List Nat)) → PyData
  | none => .none
  | some rows => .list (rows.map sD)
theorem rotMin_lt {rows : List (List Nat)} (h : rows ≠ []) : rows.idxOf (minL rows) < rows.length := List.idxOf_lt_length_of_mem (minL_spec h).1
/-- what ringM tells of a round -/
theorem ringM_way {r : Ru} {row : List Nat} {a p : Nat} (h : fateM r row = .round a p) : ∃ rows x, Way r row rows x ∧ x ∈ rows ∧ a = rows.idxOf x ∧ a + p = rows.length ∧ rows.length ≤ 200 ∧ (courseM r row (a + p - 1)).drop a = rows.drop a ∧ 1 ≤ p := by
  obtain ⟨rows, x, w, hx, e1, e2, hl⟩ := round_spec 1000 [] row (Way.start r row) h
  have hi : rows.idxOf x < rows.length := List.idxOf_lt_length_of_mem hx
  refine ⟨rows, x, w, hx, e1, by omega, hl, ?_, by omega⟩
  have : a + p - 1 = rows.length - 1 := by omega
  rw [this, course_way w (by omega)]
theorem ringM_ring {r : Ru} {row : List Nat} {rows : List (List Nat)} (h : ringM r row = some rows) : Ring r rows := by
  unfold ringM at h
  split at h
  · rename_i a p hf
    cases h
    obtain ⟨ws, x, w, hx, e1, _, _, e2, _⟩ := ringM_way hf
    rw [e2]
    have rg := ring_of_way w hx
    rw [← e1] at rg
    exact rg.rot (rotMin_lt (fun z => by have := rg.pos; rw [z] at this; exact absurd this (Nat.lt_irrefl _)))
  · cases h
theorem ringM_round {r : Ru} {row : List Nat} : (ringM r row).isSome = true ↔ ∃ a p, fateM r row = .round a p := by
  unfold ringM
  split
  · rename_i a p hf; simp [hf]
  · rename_i hf
    constructor
    · intro z; cases z
    · rintro ⟨a, p, e⟩; exact absurd e (hf a p)
theorem v_cat (xs ys : List (List Nat)) (h : xs.length + ys.length ≤ 1000000) : dAdd (.list (xs.map sD)) (.list (ys.map sD)) = some (.list ((xs ++ ys).map sD)) := by
  rw [v_add3, if_pos (size1 (by simp; omega)), List.map_append]
theorem cutD_from (xs : List (List Nat)) (k : Nat) : dCut (some (k : Int)) none (.list (xs.map sD)) = some (.list ((xs.drop k).map sD)) := by
  show some (PyData.list (cutL (xs.map sD) (some (k : Int)) none)) = _
  rw [cutL_from, List.map_drop]
theorem cutD_to (xs : List (List Nat)) (k : Nat) : dCut none (some (k : Int)) (.list (xs.map sD)) = some (.list ((xs.take k).map sD)) := by
  show some (PyData.list (cutL (xs.map sD) none (some (k : Int)))) = _
  rw [cutL_to, List.map_take]
theorem ends_ne_round : decide ((Str.ofString "ends") = Str.ofString "round") = false := by decide +kernel
theorem grows_ne_round : decide ((Str.ofString "grows") = Str.ofString "round") = false := by decide +kernel
theorem far_ne_round : decide ((Str.ofString "far") = Str.ofString "round") = false := by decide +kernel
theorem M_law_ring_eq {r : Ru} (ok : r.Ok) {row : List Nat} (h : Lt r.ws.length row) (hl : row.length ≤ 10000) : M__law_ring [rD r, sD row] = .ok (rgD (ringM r row)) := by
  have hf := M_law_fate_eq ok h hl
  unfold ringM
  cases q : fateM r row with
  | ends n l => rw [q] at hf; simp [M__law_ring, f__law_ring, startE, hf, fD, ends_ne_round, rgD]
  | grows n l k => rw [q] at hf; simp [M__law_ring, f__law_ring, startE, hf, fD, grows_ne_round, rgD]
  | far n l => rw [q] at hf; simp [M__law_ring, f__law_ring, startE, hf, fD, far_ne_round, rgD]
  | round a p =>
    rw [q] at hf
    obtain ⟨ws, x, w, hx, e1, e3, hl2, e2, p1⟩ := ringM_way q
    have lc := M_law_course ok h (n := a + p - 1) (by omega)
    have e4 : ((a + p - 1 : Nat) : Int) = (a : Int) + p - 1 := by omega
    rw [e4] at lc
    have rg := ring_of_way w hx
    rw [← e1, ← e2] at rg
    have ll : ((courseM r row (a + p - 1)).drop a).length ≤ 200 := by rw [e2, List.length_drop]; omega
    have ne : (courseM r row (a + p - 1)).drop a ≠ [] := fun z => by have := rg.pos; rw [z] at this; exact absurd this (Nat.lt_irrefl _)
    have cf := cutD_from (courseM r row (a + p - 1)) a
    simp only [rgD, rotMin, rot]
    generalize courseM r row (a + p - 1) = cs at lc cf ll ne ⊢
    generalize cs.drop a = rs at cf ll ne ⊢
    have vm := v_min ne
    have vi := v_lidx (minL rs) rs (minL_spec ne).1
    have c1 := cutD_from rs (rs.idxOf (minL rs))
    have c2 := cutD_to rs (rs.idxOf (minL rs))
    have vc := v_cat (rs.drop (rs.idxOf (minL rs))) (rs.take (rs.idxOf (minL rs))) (by rw [List.length_drop, List.length_take]; omega)
    have at2 : atI [PyData.str (Str.ofString "round"), PyData.int (a : Nat), PyData.int (p : Nat)] 2 = some (.int (p : Nat)) := id rfl
    simp [M__law_ring, f__law_ring, startE, hf, fD, at2, lc, cf, vm, vi, c1, c2, -v_add3, vc, -List.map_drop, -List.map_take, -List.map_append]
/-! ### ring_of -/
def roA : DS := (sAsg 1 (eCall 2 M_next_of (aCons (eVar 0) (aCons (eVar 1) (aNil)))))
theorem roA_loop {r : Ru} (ok : r.Ok) (x2 x4 x5 : Option LV) : ∀ (ds : List PyData) (l y : List Nat) (x3 : Option LV), Lt r.ws.length l → l.length + 4 * ds.length ≤ 1000000 → iter r l ds.length = some y →
    ∃ x3', forL (gN 3) roA ds [some (.fz (rD r)), some (.fz (sD l)), x2, x3, x4, x5] = .nx [some (.fz (rD r)), some (.fz (sD y)), x2, x3', x4, x5]
  | [], l, y, x3, _, _, e => by cases e; exact ⟨x3, rfl⟩
  | d :: ds, l, y, x3, h, hl, e => by
    simp only [List.length_cons] at hl
    have e1 : iter r l (d :: ds).length = if ended r l then none else iter r (next r l) ds.length := rfl
    rw [e1] at e
    split at e
    · cases e
    · rename_i q
      have qf : ended r l = false := by simpa using q
      have ln := next_len ok l
      have nx := M_next_of_eq ok h qf (by omega)
      obtain ⟨x3', ih⟩ := roA_loop ok x2 x4 x5 ds (next r l) y (some (.fz d)) (h.next ok) (by omega) e
      refine ⟨x3', ?_⟩
      rw [forL_step (ρ1 := [some (.fz (rD r)), some (.fz (sD l)), x2, some (.fz d), x4, x5]) (ρ2 := [some (.fz (rD r)), some (.fz (sD (next r l))), x2, some (.fz d), x4, x5]) rfl (by simp [roA, nx])]
      exact ih
def roB : DS := (sApp 4 (eCall 2 M_next_of (aCons (eVar 0) (aCons (e2 dIx (eVarB 4) (e1 dNeg (eC (.int 1)))) (aNil)))))
theorem roB_loop {r : Ru} (ok : r.Ok) (x1 x2 x5 : Option LV) : ∀ (ds : List PyData) (pre : List (List Nat)) (l y : List Nat) (x3 : Option LV), Lt r.ws.length l → l.length + 4 * ds.length ≤ 1000000 → pre.length + ds.length ≤ 10000 → iter r l ds.length = some y →
    ∃ x3', forL (gN 3) roB ds [some (.fz (rD r)), x1, x2, x3, some (.own ((pre ++ [l]).map sD)), x5] = .nx [some (.fz (rD r)), x1, x2, x3', some (.own ((pre ++ courseM r l ds.length).map sD)), x5]
  | [], pre, l, y, x3, _, _, _, e => ⟨x3, rfl⟩
  | d :: ds, pre, l, y, x3, h, hl, hp, e => by
    simp only [List.length_cons] at hl hp
    have e1 : iter r l (d :: ds).length = if ended r l then none else iter r (next r l) ds.length := rfl
    rw [e1] at e
    split at e
    · cases e
    · rename_i q
      have qf : ended r l = false := by simpa using q
      have ln := next_len ok l
      have nx := M_next_of_eq ok h qf (by omega)
      obtain ⟨x3', ih⟩ := roB_loop ok x1 x2 x5 ds (pre ++ [l]) (next r l) y (some (.fz d)) (h.next ok) (by omega) (by simp; omega) e
      refine ⟨x3', ?_⟩
      have ec : courseM r l (d :: ds).length = l :: courseM r (next r l) ds.length := by simp [courseM, qf]
      rw [ec]
      have e2 : pre ++ l :: courseM r (next r l) ds.length = (pre ++ [l]) ++ courseM r (next r l) ds.length := by simp
      rw [e2, ← ih]
      have z : pre.length + 1 < sizeLine := by rw [sizeLine_eq]; omega
      have e3 : (pre ++ [l]).map sD = pre.map sD ++ [sD l] := by simp
      rw [forL_step (ρ1 := [some (.fz (rD r)), x1, x2, some (.fz d), some (.own ((pre ++ [l]).map sD)), x5]) (ρ2 := [some (.fz (rD r)), x1, x2, some (.fz d), some (.own ((pre ++ [l] ++ [next r l]).map sD)), x5]) rfl (by rw [e3]; simp [roB, nx, atI_snoc, z])]
theorem M_ring_of_eq {r : Ru} (ok : r.Ok) {row : List Nat} (h : Lt r.ws.length row) (hl : row.length ≤ 10000) : M_ring_of [rD r, sD row] = .ok (rgD (ringM r row)) := by
  have hf := M_fate_of_eq ok h hl
  unfold ringM
  cases q : fateM r row with
  | ends n l => rw [q] at hf; simp [M_ring_of, f_ring_of, startE, hf, fD, ends_ne_round, rgD]
  | grows n l k => rw [q] at hf; simp [M_ring_of, f_ring_of, startE, hf, fD, grows_ne_round, rgD]
  | far n l => rw [q] at hf; simp [M_ring_of, f_ring_of, startE, hf, fD, far_ne_round, rgD]
  | round a p =>
    rw [q] at hf
    obtain ⟨ws, x, w, hx, e1, e3, hl2, e2, p1⟩ := ringM_way q
    have rg := ring_of_way w hx
    rw [← e1, ← e2] at rg
    have ll : ((courseM r row (a + p - 1)).drop a).length ≤ 200 := by rw [e2, List.length_drop]; omega
    have ne : (courseM r row (a + p - 1)).drop a ≠ [] := fun z => by have := rg.pos; rw [z] at this; exact absurd this (Nat.lt_irrefl _)
    have hi : ws.idxOf x < ws.length := List.idxOf_lt_length_of_mem hx
    have ia : iter r row a = some x := by
      rw [w.tr a (by omega), List.getElem?_append_left (by omega), e1, List.getElem?_eq_getElem hi]
      exact congrArg some (List.getElem_idxOf hi)
    have lx := iter_lt ok a h ia
    obtain ⟨y, iy⟩ : ∃ y, iter r x (p - 1) = some y := by
      have := iter_add r a (p - 1) row x ia
      rw [← this, w.tr (a + (p - 1)) (by omega), List.getElem?_append_left (by omega)]
      exact ⟨_, List.getElem?_eq_getElem (by omega)⟩
    have ec : (courseM r row (a + p - 1)).drop a = courseM r x (p - 1) := by
      have t := w.tr (a + p - 1) (by omega)
      rw [List.getElem?_append_left (by omega), List.getElem?_eq_getElem (by omega)] at t
      obtain ⟨c1, c2⟩ := courseM_iter r _ row _ t
      have := courseM_drop r (a + p - 1) row a x (by rw [c2 a (by omega)]; exact ia)
      rw [this.2]
      congr 1
      omega
    obtain ⟨y3, l1⟩ := roA_loop ok (some (.fz (fD (.round a p)))) none none (rangeD 0 a) row x none h (by rw [rangeD_len]; omega) (by rw [rangeD_len]; exact ia)
    obtain ⟨y4, l2⟩ := roB_loop ok (some (.fz (sD x))) (some (.fz (fD (.round a p)))) none (rangeD 0 (p - 1)) [] x y y3 lx.1 (by rw [rangeD_len]; omega) (by rw [rangeD_len]; simp; omega) (by rw [rangeD_len]; exact iy)
    rw [rangeD_len, List.nil_append, List.nil_append, ← ec] at l2
    simp only [rgD, rotMin, rot]
    generalize (courseM r row (a + p - 1)).drop a = rs at ll ne l2 ⊢
    have vm := v_min ne
    have vi := v_lidx (minL rs) rs (minL_spec ne).1
    have c1 := cutD_from rs (rs.idxOf (minL rs))
    have c2 := cutD_to rs (rs.idxOf (minL rs))
    have vc := v_cat (rs.drop (rs.idxOf (minL rs))) (rs.take (rs.idxOf (minL rs))) (by rw [List.length_drop, List.length_take]; omega)
    have at2 : atI [PyData.str (Str.ofString "round"), PyData.int (a : Nat), PyData.int (p : Nat)] 2 = some (.int (p : Nat)) := id rfl
    have z1 : 1 ≤ sizeLine := size1 (by omega)
    have r1 : inR (a : Int) = true := inR_of (by omega) (by omega)
    have r2 : inR ((p : Int) - 1) = true := inR_of (by omega) (by omega)
    have t2 : ((p : Int) - 1).toNat = p - 1 := by omega
    simp only [fD, List.map_cons, List.map_nil] at l1 l2 hf
    simp only [roA, roB] at l1 l2
    simp [M_ring_of, f_ring_of, startE, hf, at2, r1, r2, t2, l1, z1, l2, vm, vi, c1, c2, -v_add3, vc, -List.map_drop, -List.map_take, -List.map_append]
theorem M_ring_eq {r : Ru} (ok : r.Ok) {row : List Nat} (h : rowOk r row) : M_ring [rD r, sD row] = .ok (rgD (ringM r row)) := by
  have h2 := h.2
  simp [M_ring, f_ring, startE, M_look_row_ok ok h, M_ring_of_eq ok h.1 (by omega)]
end DL
namespace DL
open PySem PySem.Spec L2
theorem upL_flat (ls : List Nat) : ∀ (n : Nat) (os : List (List Nat)), upL ls n os = (List.range n).flatMap fun k => heads ls (k + 1) os
  | 0, _ => rfl
  | n + 1, os => by
    rw [upL, upL_flat ls n, List.range_succ_eq_map, List.flatMap_cons, List.flatMap_map]
    rfl
theorem upTo_flat (m n : Nat) : upTo m n = (List.range (n + 1)).flatMap fun k => heads (letsN m) k [[]] := by
  unfold upTo
  rw [upL_flat, List.range_succ_eq_map, List.flatMap_cons, List.flatMap_map]
  rfl
theorem heads_le {m : Nat} (hm : m ≤ 3) {k : Nat} (hk : k ≤ 6) : (heads (letsN m) k [[]]).length ≤ 1000 := by
  rw [heads_len, letsN_len hm]
  have : m ^ k ≤ 3 ^ k := Nat.pow_le_pow_left hm _
  have : 3 ^ k ≤ 3 ^ 6 := Nat.pow_le_pow_right (by decide) hk
  simp; omega
def utBody : DS := (sAsg 2 (e2 dAdd (eVar 2) (eCall 2 M__law_every (aCons (eVar 0) (aCons (eVar 3) (aNil))))))
theorem ut_loop {m : Nat} (hm : m ≤ 3) (x1 : Option LV) : ∀ (ks : List Nat) (acc : List (List Nat)) (x3 : Option LV), (∀ k ∈ ks, k ≤ 6) → acc.length + 1000 * ks.length ≤ 100000 →
    ∃ y3, forL (gN 3) utBody (ks.map fun k => PyData.int (k : Nat)) [some (.fz (.int m)), x1, some (.fz (.list (acc.map sD))), x3] = .nx [some (.fz (.int m)), x1, some (.fz (.list ((acc ++ ks.flatMap fun k => heads (letsN m) k [[]]).map sD))), y3]
  | [], acc, x3, _, _ => ⟨x3, by simp [forL]⟩
  | k :: ks, acc, x3, hk, hl => by
    simp only [List.length_cons] at hl
    have hk1 := hk k (by simp)
    have ev := M_law_every_eq (m := m) hm hk1
    have hle := heads_le hm hk1
    obtain ⟨y3, ih⟩ := ut_loop hm x1 ks (acc ++ heads (letsN m) k [[]]) (some (.fz (.int k))) (fun k h => hk k (by simp [h])) (by rw [List.length_append]; omega)
    refine ⟨y3, ?_⟩
    rw [List.map_cons, List.flatMap_cons, ← List.append_assoc, ← ih]
    refine forL_step (ρ1 := [some (.fz (.int m)), x1, some (.fz (.list (acc.map sD))), some (.fz (.int k))]) rfl ?_
    generalize heads (letsN m) k [[]] = ws at ev hle
    have z2 : acc.length + ws.length ≤ sizeLine := size1 (by omega)
    simp [utBody, ev, z2]
theorem M_law_up_to_eq {m n : Nat} (hm : m ≤ 3) (hn : n ≤ 6) : M__law_up_to [.int m, .int n] = .ok (.list ((upTo m n).map sD)) := by
  obtain ⟨y3, lp⟩ := ut_loop hm (some (.fz (.int n))) (List.range (n + 1)) [] none (fun k hk => by have := List.mem_range.mp hk; omega) (by simp; omega)
  have er : (List.range (n + 1)).map (fun (k : Nat) => PyData.int (k : Nat)) = rangeD 0 (n + 1) := by rw [rangeD_eq]; simp
  rw [er, ← upTo_flat, List.nil_append] at lp
  have hrL : inR ((n : Int) + 1) = true := inR_of (by omega) (by omega)
  have etL : ((n : Int) + 1).toNat = n + 1 := by omega
  have e : M__law_up_to [.int m, .int n] = outD (Fl.seq (forL (gN 3) utBody (rangeD 0 (n + 1)) [some (.fz (.int m)), some (.fz (.int n)), some (.fz (.list [])), none]) (sRet (eVar 2))) := by
    simp [M__law_up_to, f__law_up_to, startE, hrL, etL, utBody]
  simp only [List.map_nil] at lp
  rw [e, lp]
  simp
theorem dNe_strs2 (a b : List (List Nat)) : dNe (.list (a.map sD)) (.list (b.map sD)) = some (.bool (!decide (a = b))) := by
  unfold dNe
  rw [if_pos (by simp [depth_strs])]
  have : PyData.eqv (.list (a.map sD)) (.list (b.map sD)) = decide (a = b) := by
    show PyData.eqvAll (a.map sD) (b.map sD) = _
    induction a generalizing b with
    | nil => cases b <;> rfl
    | cons x a ih =>
      cases b with
      | nil => rfl
      | cons y b =>
        show (PyData.eqv (sD x) (sD y) && PyData.eqvAll (a.map sD) (b.map sD)) = _
        rw [eqv_sD, ih b]
        by_cases h : x = y <;> by_cases h2 : a = b <;> simp [h, h2]
  rw [this]
theorem dEq_strs2 (a b : List (List Nat)) : dEq (.list (a.map sD)) (.list (b.map sD)) = some (.bool (decide (a = b))) := by
  have := dNe_strs2 a b
  unfold dNe at this
  unfold dEq
  rw [if_pos (by simp [depth_strs])] at this ⊢
  cases h : PyData.eqv (.list (a.map sD)) (.list (b.map sD)) <;> rw [h] at this <;> cases h2 : decide (a = b) <;> rw [h2] at this <;> simp at this ⊢
/-! ### rows of a ring -/
theorem way_lt {r : Ru} (ok : r.Ok) {row x : List Nat} {rows : List (List Nat)} (h : Lt r.ws.length row) (w : Way r row rows x) : ∀ y ∈ rows, Lt r.ws.length y := fun y hy => by
  obtain ⟨i, hi, e⟩ := List.mem_iff_getElem.mp hy
  have t := w.tr i (by omega)
  rw [List.getElem?_append_left hi, List.getElem?_eq_getElem hi, e] at t
  exact (iter_lt ok i h t).1
theorem ringM_mem {r : Ru} (ok : r.Ok) {row : List Nat} (h : Lt r.ws.length row) {rows : List (List Nat)} (hr : ringM r row = some rows) : rows.length ≤ 200 ∧ ∀ y ∈ rows, Lt r.ws.length y ∧ OnWay r y := by
  unfold ringM at hr
  split at hr
  · rename_i a p hf
    cases hr
    obtain ⟨ws, x, w, hx, e1, e3, hl, e2, _⟩ := ringM_way hf
    rw [e2]
    refine ⟨by unfold rotMin; rw [rot_len, List.length_drop]; omega, fun y hy => ?_⟩
    have : y ∈ ws := List.mem_of_mem_drop ((rot_perm _ _).mem_iff.mp hy)
    exact ⟨way_lt ok h w y this, w.on y this⟩
  · cases hr
theorem ringM_ne {r : Ru} {row : List Nat} {rows : List (List Nat)} (h : ringM r row = some rows) : ∃ x t, rows = x :: t := by
  have := (ringM_ring h).pos
  cases rows with
  | nil => exact absurd this (Nat.lt_irrefl _)
  | cons x t => exact ⟨x, t, rfl⟩
/-! ### the least rows of all rings -/
def addN (acc : List (List Nat)) (h : List Nat) : List (List Nat) := if h ∈ acc then acc else acc ++ [h]
def leastF (r : Ru) (acc : List (List Nat)) (w : List Nat) : List (List Nat) := match ringM r w with
  | some (h :: _) => addN acc h
  | _ => acc
def leastL (r : Ru) (ws acc : List (List Nat)) : List (List Nat) := ws.foldl (leastF r) acc
theorem leastF_len (r : Ru) (acc : List (List Nat)) (w : List Nat) : (leastF r acc w).length ≤ acc.length + 1 := by
  unfold leastF addN
  split
  · split <;> simp
  · omega
theorem leastL_len (r : Ru) : ∀ (ws acc : List (List Nat)), (leastL r ws acc).length ≤ acc.length + ws.length
  | [], acc => Nat.le_refl _
  | w :: ws, acc => by
    have := leastL_len r ws (leastF r acc w)
    have := leastF_len r acc w
    show (leastL r ws (leastF r acc w)).length ≤ _
    rw [List.length_cons]
    omega
def tkv (acc : List (List Nat)) : List (Key × PyData) := acc.map fun x => (.inr (S x), .bool true)
theorem tkv_any (acc : List (List Nat)) (h : List Nat) : ((tkv acc).any fun kv => decide (kv.1 = (.inr (S h) : Key))) = decide (h ∈ acc) := by
  rw [Bool.eq_iff_iff]
  simp only [tkv, List.any_map, Function.comp_def, List.any_eq_true, decide_eq_true_eq]
  constructor
  · rintro ⟨x, hx, e⟩
    have : S x = S h := Sum.inr.inj e
    have : x = h := by simpa using this
    exact this ▸ hx
  · intro hx; exact ⟨h, hx, rfl⟩
theorem tkv_put (acc : List (List Nat)) (h : List Nat) : putD (tkv acc) (.inr (S h)) (.bool true) = tkv (addN acc h) := by
  unfold putD addN
  rw [tkv_any]
  by_cases q : h ∈ acc
  · rw [decide_eq_true q, if_pos rfl, if_pos q]
    unfold tkv
    rw [List.map_map]
    refine List.map_congr_left fun x _ => ?_
    simp only [Function.comp_def]
    split <;> rfl
  · rw [decide_eq_false q, if_neg (by decide), if_neg q]
    simp [tkv]
theorem putF_t (i : Nat) (ρ : En) (acc : List (List Nat)) (h : List Nat) (hl : acc.length ≤ 100000) : putF i ρ (tkv acc) (sD h) (.bool true) = .nx (ρ.set i (some (.ownd (tkv (addN acc h))))) := by
  show (if (tkv acc).length < sizeLine then Fl.nx (ρ.set i (some (.ownd (putD (tkv acc) (.inr (S h)) (.bool true))))) else .bad) = _
  rw [if_pos (by unfold tkv; rw [List.length_map, sizeLine_eq]; omega), tkv_put]
def rsBody : DS := (sSeq (sAsg 4 (eCall 2 M_ring_of (aCons (eVar 0) (aCons (eVar 3) (aNil))))) (sIf (t2 dIsNot (eVar 4) (eC .none)) (sPutK 2 (e2 dIx (eVar 4) (eC (.int 0))) (eC (.bool true))) (sNil)))
theorem isNot_list (ds : List PyData) : dIsNot (.list ds) .none = some (.bool true) := by rfl
theorem rs_loop {r : Ru} (ok : r.Ok) (x1 : Option LV) : ∀ (ws acc : List (List Nat)) (x3 x4 : Option LV), (∀ w ∈ ws, Lt r.ws.length w ∧ w.length ≤ 100) → acc.length + ws.length ≤ 10000 →
    ∃ y3 y4, forL (gN 3) rsBody (ws.map sD) [some (.fz (rD r)), x1, some (.ownd (tkv acc)), x3, x4] = .nx [some (.fz (rD r)), x1, some (.ownd (tkv (leastL r ws acc))), y3, y4]
  | [], acc, x3, x4, _, _ => ⟨x3, x4, rfl⟩
  | w :: ws, acc, x3, x4, hw, hl => by
    simp only [List.length_cons] at hl
    obtain ⟨h1, h2⟩ := hw w List.mem_cons_self
    have ro := M_ring_of_eq ok h1 (by omega)
    have fl := leastF_len r acc w
    obtain ⟨y3, y4, ih⟩ := rs_loop ok x1 ws (leastF r acc w) (some (.fz (sD w))) (some (.fz (rgD (ringM r w)))) (fun v hv => hw v (List.mem_cons_of_mem _ hv)) (by omega)
    refine ⟨y3, y4, ?_⟩
    have el : leastL r (w :: ws) acc = leastL r ws (leastF r acc w) := rfl
    rw [el, ← ih, List.map_cons]
    refine forL_step (ρ1 := [some (.fz (rD r)), x1, some (.ownd (tkv acc)), some (.fz (sD w)), x4]) rfl ?_
    cases q : ringM r w with
    | none =>
      rw [q] at ro
      simp [rsBody, ro, rgD, leastF, q]
    | some rows =>
      obtain ⟨x, t, rfl⟩ := ringM_ne q
      rw [q] at ro
      have pf := putF_t 2 [some (.fz (rD r)), x1, some (.ownd (tkv acc)), some (.fz (sD w)), some (.fz (.list ((x :: t).map sD)))] acc x (by omega)
      simp only [List.map_cons] at pf
      simp [rsBody, ro, rgD, leastF, q, isNot_list, pf]
theorem sok_S {x : List Nat} {n : Nat} (hn : n ≤ 3) (h : Lt n x) (hl : x.length ≤ 1000) : sokB (S x) = true := by
  unfold sokB
  rw [Bool.and_eq_true]
  refine ⟨decide_eq_true (by rw [S_len]; exact size1 (by omega)), strOk_iff.mpr fun c hc => ?_⟩
  have hc : c ∈ x := by simpa using hc
  have := h c hc
  omega
theorem keysS_t {n : Nat} (hn : n ≤ 3) : ∀ {acc : List (List Nat)}, (∀ x ∈ acc, Lt n x ∧ x.length ≤ 1000) → keysS (tkv acc) = some (acc.map S)
  | [], _ => rfl
  | x :: acc, h => by
    show (if sokB (S x) then (keysS (tkv acc)).map (S x :: ·) else none) = _
    rw [if_pos (sok_S hn (h x List.mem_cons_self).1 (h x List.mem_cons_self).2), keysS_t hn fun y hy => h y (List.mem_cons_of_mem _ hy)]
    rfl
theorem leastL_mem {r : Ru} (ok : r.Ok) : ∀ (ws acc : List (List Nat)), (∀ w ∈ ws, Lt r.ws.length w) → (∀ x ∈ acc, Lt r.ws.length x ∧ x.length ≤ 1000) → ∀ x ∈ leastL r ws acc, Lt r.ws.length x ∧ x.length ≤ 1000
  | [], acc, _, ha => ha
  | w :: ws, acc, hw, ha => by
    refine leastL_mem ok ws (leastF r acc w) (fun v hv => hw v (List.mem_cons_of_mem _ hv)) fun x hx => ?_
    unfold leastF addN at hx
    split at hx
    · rename_i h t q
      split at hx
      · exact ha x hx
      · rcases List.mem_append.mp hx with hx | hx
        · exact ha x hx
        · simp at hx
          subst hx
          obtain ⟨_, m⟩ := ringM_mem ok (hw w List.mem_cons_self) q
          obtain ⟨m1, m2⟩ := m x List.mem_cons_self
          exact ⟨m1, by have := m2.1; omega⟩
    · exact ha x hx
def ringsM (r : Ru) (n : Nat) : List (List Nat) := sortN (leastL r (upTo r.ws.length n) [])
theorem upTo_len3 {m n : Nat} (hm : m ≤ 3) (hn : n ≤ 3) : (upTo m n).length ≤ 40 := by
  unfold upTo
  have h := upL_len (ls := letsN m) (by rw [letsN_len hm]; exact hm) n [[]]
  have : n = 0 ∨ n = 1 ∨ n = 2 ∨ n = 3 := by omega
  rcases this with rfl | rfl | rfl | rfl
  · simp [upL]
  · simp [sz] at h; simp; omega
  · simp [sz] at h; simp; omega
  · simp [sz] at h; simp; omega
theorem nSort_t {n : Nat} (hn : n ≤ 3) {acc : List (List Nat)} (h : ∀ x ∈ acc, Lt n x ∧ x.length ≤ 1000) (hl : acc.length ≤ 100000) {i : Nat} {ρ : En} (hi : ρ[i]? = some (some (.ownd (tkv acc)))) : nSortKA i ρ = .ok ((sortN acc).map sD) := by
  unfold nSortKA
  rw [r_owndAt, hi]
  simp only [rsb_ok]
  rw [keysS_t hn h]
  have hz : acc.length ≤ sizeLine := size1 (by omega)
  simp only [List.length_map, hz, if_true]
  rw [sortS_S]
  simp
theorem M_rings_eq {r : Ru} (ok : r.Ok) {n : Nat} (hn : n ≤ 3) : M_rings [rD r, .int n] = .ok (.list ((ringsM r n).map sD)) := by
  have n3 := ok.n3
  have wt := M_words_to_eq (m := r.ws.length) (n := n) n3 (by omega)
  have wl := upTo_len3 (m := r.ws.length) n3 hn
  have wm := fun w (hw : w ∈ upTo r.ws.length n) => (mem_upTo n3).mp hw
  obtain ⟨y3, y4, lp⟩ := rs_loop ok (some (.fz (.int n))) (upTo r.ws.length n) [] none none (fun w hw => ⟨(wm w hw).1, by have := (wm w hw).2; omega⟩) (by simp; omega)
  have lm := leastL_mem ok (upTo r.ws.length n) [] (fun w hw => (wm w hw).1) (fun x hx => nomatch hx)
  have ll := leastL_len r (upTo r.ws.length n) []
  simp only [List.length_nil] at ll
  have ns := nSort_t (i := 2) (ρ := [some (.fz (rD r)), some (.fz (.int n)), some (.ownd (tkv (leastL r (upTo r.ws.length n) []))), y3, y4]) n3 lm (by omega) rfl
  have iw : M_is_within [.int n, .int 0, .int 4] = .ok (.bool true) := within_yes (by omega)
  unfold ringsM
  generalize leastL r (upTo r.ws.length n) [] = ks at lp ns ⊢
  generalize upTo r.ws.length n = us at lp wt
  have lp : forL (gN 3) rsBody (us.map sD) [some (.fz (rD r)), some (.fz (.int n)), some (.ownd []), none, none] = .nx [some (.fz (rD r)), some (.fz (.int n)), some (.ownd (tkv ks)), y3, y4] := lp
  simp only [rsBody] at lp
  simp [M_rings, f_rings, startE, M_look_ok ok, iw, wt, lp, ns]
end DL
namespace DL
open PySem PySem.Spec L2
/-! ### leading -/
def addL (ws acc : List (List Nat)) : List (List Nat) := ws.foldl addN acc
theorem addN_len (acc : List (List Nat)) (h : List Nat) : (addN acc h).length ≤ acc.length + 1 := by
  unfold addN; split
  · omega
  · simp
theorem addL_len : ∀ (ws acc : List (List Nat)), (addL ws acc).length ≤ acc.length + ws.length
  | [], acc => Nat.le_refl _
  | w :: ws, acc => by
    have h1 := addL_len ws (addN acc w)
    have h2 := addN_len acc w
    show (addL ws (addN acc w)).length ≤ _
    rw [List.length_cons]; omega
theorem addL_mem {P : List Nat → Prop} : ∀ (ws acc : List (List Nat)), (∀ w ∈ ws, P w) → (∀ w ∈ acc, P w) → ∀ w ∈ addL ws acc, P w
  | [], acc, _, h, w, hw => h w hw
  | v :: ws, acc, h1, h2, w, hw => addL_mem ws (addN acc v) (fun x hx => h1 x (by simp [hx])) (fun x hx => by
      unfold addN at hx
      split at hx
      · exact h2 x hx
      · rcases List.mem_append.mp hx with hx | hx
        · exact h2 x hx
        · simp at hx; subst hx; exact h1 x (by simp)) w hw
def ldPut : DS := sPutK 5 (eVar 7) (eC (.bool true))
theorem ld_loop (x0 x1 x2 x3 x4 x6 : Option LV) : ∀ (ws acc : List (List Nat)) (x7 : Option LV), acc.length + ws.length ≤ 100000 →
    ∃ y7, forL (gN 7) ldPut (ws.map sD) [x0, x1, x2, x3, x4, some (.ownd (tkv acc)), x6, x7] = .nx [x0, x1, x2, x3, x4, some (.ownd (tkv (addL ws acc))), x6, y7]
  | [], acc, x7, _ => ⟨x7, by simp [forL, addL]⟩
  | w :: ws, acc, x7, hl => by
    rw [List.length_cons] at hl
    have h2 := addN_len acc w
    obtain ⟨y7, ih⟩ := ld_loop x0 x1 x2 x3 x4 x6 ws (addN acc w) (some (.fz (sD w))) (by omega)
    refine ⟨y7, ?_⟩
    show _ = Fl.nx [x0, x1, x2, x3, x4, some (.ownd (tkv (addL ws (addN acc w)))), x6, y7]
    rw [← ih, List.map_cons]
    refine forL_step (ρ1 := [x0, x1, x2, x3, x4, some (.ownd (tkv acc)), x6, some (.fz (sD w))]) rfl ?_
    have pf := putF_t 5 [x0, x1, x2, x3, x4, some (.ownd (tkv acc)), x6, some (.fz (sD w))] acc w (by omega)
    simp [ldPut, pf]
theorem ahead_len {r : Ru} (ok : r.Ok) (l : List Nat) : (aheadM r l).length < 64 := by
  unfold aheadM sortN
  rw [List.length_mergeSort]
  have hu := flatMap_len_le (fun c => aheadC_len ok l c) (lets r)
  rw [lets_len ok] at hu
  have := ok.n3
  unfold aheadU
  omega
theorem ahead_short {r : Ru} (ok : r.Ok) {l : List Nat} (h : rowOk r l) : ∀ x ∈ aheadM r l, Lt r.ws.length x ∧ x.length ≤ 1000 := by
  intro x hx
  obtain ⟨x1, x2, x3⟩ := aheadM_mem ok h.1 hx
  have e := congrArg List.length x3
  unfold DL.next at e
  rw [List.length_append, List.length_drop] at e
  have := ok.c3
  have := h.2
  exact ⟨x1, by omega⟩

theorem forL_ex41 {gt : Tgt} {f : DS} {d : PyData} {ds : List PyData} {ρ ρ1 ρ2 : En} {c : Str} (h1 : gt d ρ = some ρ1) (h2 : f ρ1 = .ex c ρ2) : forL gt f (d :: ds) ρ = .ex c ρ2 := by
  unfold forL; rw [h1]; dsimp only; rw [h2]
def leadS (r : Ru) (rows : List (List Nat)) : List (List Nat) := addL (rows.flatMap (aheadM r)) []
def leadR (r : Ru) : Nat → List (List Nat) → Option (List (List Nat))
  | 0, rows => some rows
  | n + 1, rows => if 500 < (leadS r rows).length then none else leadR r n (sortN (leadS r rows))
theorem addL_append (xs ys acc : List (List Nat)) : addL (xs ++ ys) acc = addL ys (addL xs acc) := by simp [addL]
def ldOut : DS := (sFor (iSeq (eCall 2 M_ahead_of (aCons (eVar 0) (aCons (eVar 6) (aNil))))) (gN 7) ldPut)
theorem ld_out {r : Ru} (ok : r.Ok) (x1 x2 x3 x4 : Option LV) : ∀ (rows acc : List (List Nat)) (x6 x7 : Option LV), (∀ l ∈ rows, l.length ≤ 1000) → acc.length + 64 * rows.length ≤ 100000 →
    ∃ y6 y7, forL (gN 6) ldOut (rows.map sD) [some (.fz (rD r)), x1, x2, x3, x4, some (.ownd (tkv acc)), x6, x7] = .nx [some (.fz (rD r)), x1, x2, x3, x4, some (.ownd (tkv (addL (rows.flatMap (aheadM r)) acc))), y6, y7]
  | [], acc, x6, x7, _, _ => ⟨x6, x7, by simp [forL, addL]⟩
  | l :: rows, acc, x6, x7, hl, hb => by
    rw [List.length_cons] at hb
    have al := ahead_len ok l
    have ah := M_ahead_of_eq ok (l := l) (by have := hl l (by simp); omega)
    obtain ⟨z7, lp⟩ := ld_loop (some (.fz (rD r))) x1 x2 x3 x4 (some (.fz (sD l))) (aheadM r l) acc x7 (by omega)
    have ll := addL_len (aheadM r l) acc
    obtain ⟨y6, y7, ih⟩ := ld_out ok x1 x2 x3 x4 rows (addL (aheadM r l) acc) (some (.fz (sD l))) z7 (fun x hx => hl x (by simp [hx])) (by omega)
    refine ⟨y6, y7, ?_⟩
    rw [List.flatMap_cons, addL_append, ← ih, List.map_cons]
    refine forL_step (ρ1 := [some (.fz (rD r)), x1, x2, x3, x4, some (.ownd (tkv acc)), some (.fz (sD l)), x7]) rfl ?_
    generalize aheadM r l = as at *
    simp [ldOut, ah, lp]
def ldTurn : DS := (sSeq (sNewK 5) (sSeq (sFor (iSeq (eVar 3)) (gN 6) ldOut) (sSeq (sIf (t2 dGt (eLenK 5) (eC (.int 500))) (sRaise "TooMany") (sNil)) (sAsg 3 (eFz (nSortKA 5))))))
theorem ld_turn {r : Ru} (ok : r.Ok) (x1 x2 x4 x5 x6 x7 : Option LV) (rows : List (List Nat)) (hr : rows.length ≤ 500) (hm : ∀ l ∈ rows, Lt r.ws.length l ∧ l.length ≤ 100) :
    ∃ y6 y7, ldTurn [some (.fz (rD r)), x1, x2, some (.fz (.list (rows.map sD))), x4, x5, x6, x7] =
      if 500 < (leadS r rows).length then .ex "TooMany" [some (.fz (rD r)), x1, x2, some (.fz (.list (rows.map sD))), x4, some (.ownd (tkv (leadS r rows))), y6, y7] else .nx [some (.fz (rD r)), x1, x2, some (.fz (.list ((sortN (leadS r rows)).map sD))), x4, some (.ownd (tkv (leadS r rows))), y6, y7] := by
  obtain ⟨y6, y7, lp⟩ := ld_out ok x1 x2 (some (.fz (.list (rows.map sD)))) x4 rows [] x6 x7 (fun l hl => by have := (hm l hl).2; omega) (by simp; omega)
  refine ⟨y6, y7, ?_⟩
  have lp : forL (gN 6) ldOut (rows.map sD) [some (.fz (rD r)), x1, x2, some (.fz (.list (rows.map sD))), x4, some (.ownd []), x6, x7] = .nx [some (.fz (rD r)), x1, x2, some (.fz (.list (rows.map sD))), x4, some (.ownd (tkv (leadS r rows))), y6, y7] := lp
  have kl : (tkv (leadS r rows)).length = (leadS r rows).length := by unfold tkv; rw [List.length_map]
  have lk : eLenK 5 [some (.fz (rD r)), x1, x2, some (.fz (.list (rows.map sD))), x4, some (.ownd (tkv (leadS r rows))), y6, y7] = .ok (.int ((leadS r rows).length : Nat)) := by rw [← kl]; rfl
  by_cases h5 : 500 < (leadS r rows).length
  · rw [if_pos h5]
    have h5' : (500 : Int) < ((leadS r rows).length : Int) := by omega
    generalize (leadS r rows).length = kn at *
    generalize tkv (leadS r rows) = kv at *
    generalize rows.map sD = rl at *
    simp [ldTurn, lp, lk, h5']
  · rw [if_neg h5]
    have h5' : ¬ (500 : Int) < ((leadS r rows).length : Int) := by omega
    have lm : ∀ x ∈ leadS r rows, Lt r.ws.length x ∧ x.length ≤ 1000 := addL_mem _ _ (fun w hw => by
      obtain ⟨l, hl, hw⟩ := List.mem_flatMap.mp hw
      obtain ⟨x1, x2, x3⟩ := aheadM_mem ok (hm l hl).1 hw
      have e := congrArg List.length x3
      unfold DL.next at e
      rw [List.length_append, List.length_drop] at e
      have := ok.c3
      have := (hm l hl).2
      exact ⟨x1, by omega⟩) (fun x hx => nomatch hx)
    have ns := nSort_t (i := 5) (ρ := [some (.fz (rD r)), x1, x2, some (.fz (.list (rows.map sD))), x4, some (.ownd (tkv (leadS r rows))), y6, y7]) ok.n3 lm (by omega) rfl
    generalize (sortN (leadS r rows)).map sD = sl at *
    generalize (leadS r rows).length = kn at *
    generalize tkv (leadS r rows) = kv at *
    generalize rows.map sD = rl at *
    simp [ldTurn, lp, lk, h5', ns]
theorem lead_mem {r : Ru} (ok : r.Ok) {rows : List (List Nat)} {k : Nat} (hm : ∀ l ∈ rows, Lt r.ws.length l ∧ l.length ≤ k) : ∀ l ∈ sortN (leadS r rows), Lt r.ws.length l ∧ l.length ≤ k + 3 := fun l hl => by
  have hl := sortN_mem.mp hl
  exact addL_mem (P := fun l => Lt r.ws.length l ∧ l.length ≤ k + 3) _ _ (fun w hw => by
    obtain ⟨l, hl, hw⟩ := List.mem_flatMap.mp hw
    obtain ⟨x1, x2, x3⟩ := aheadM_mem ok (hm l hl).1 hw
    have e := congrArg List.length x3
    unfold DL.next at e
    rw [List.length_append, List.length_drop] at e
    have := ok.c3
    have := (hm l hl).2
    exact ⟨x1, by omega⟩) (fun x hx => by cases hx) l hl
theorem ld_turns {r : Ru} (ok : r.Ok) (x1 x2 : Option LV) : ∀ (ds : List PyData) (rows : List (List Nat)) (x4 x5 x6 x7 : Option LV) (k : Nat), rows.length ≤ 500 → (∀ l ∈ rows, Lt r.ws.length l ∧ l.length ≤ k) → k + 3 * ds.length ≤ 100 →
    (leadR r ds.length rows = none ∧ ∃ ρ, forL (gN 4) ldTurn ds [some (.fz (rD r)), x1, x2, some (.fz (.list (rows.map sD))), x4, x5, x6, x7] = .ex "TooMany" ρ) ∨
    (∃ res y4 y5 y6 y7, leadR r ds.length rows = some res ∧ forL (gN 4) ldTurn ds [some (.fz (rD r)), x1, x2, some (.fz (.list (rows.map sD))), x4, x5, x6, x7] = .nx [some (.fz (rD r)), x1, x2, some (.fz (.list (res.map sD))), y4, y5, y6, y7])
  | [], rows, x4, x5, x6, x7, k, _, _, _ => .inr ⟨rows, x4, x5, x6, x7, rfl, by simp [forL]⟩
  | d :: ds, rows, x4, x5, x6, x7, k, hr, hm, hk => by
    rw [List.length_cons] at hk
    obtain ⟨y6, y7, st⟩ := ld_turn ok x1 x2 (some (.fz d)) x5 x6 x7 rows hr (fun l hl => ⟨(hm l hl).1, by have := (hm l hl).2; omega⟩)
    have hm2 := lead_mem ok hm
    have ll : (sortN (leadS r rows)).length = (leadS r rows).length := by unfold sortN; rw [List.length_mergeSort]
    show (leadR r (ds.length + 1) rows = none ∧ _) ∨ (∃ res y4 y5 y6 y7, leadR r (ds.length + 1) rows = some res ∧ _)
    unfold leadR
    by_cases h5 : 500 < (leadS r rows).length
    · rw [if_pos h5] at st ⊢
      refine .inl ⟨rfl, _, forL_ex41 (ρ1 := [some (.fz (rD r)), x1, x2, some (.fz (.list (rows.map sD))), some (.fz d), x5, x6, x7]) rfl st⟩
    · rw [if_neg h5] at st ⊢
      have fs := forL_step (gt := gN 4) (f := ldTurn) (d := d) (ds := ds) (ρ := [some (.fz (rD r)), x1, x2, some (.fz (.list (rows.map sD))), x4, x5, x6, x7]) (ρ1 := [some (.fz (rD r)), x1, x2, some (.fz (.list (rows.map sD))), some (.fz d), x5, x6, x7]) rfl st
      rw [fs]
      exact ld_turns ok x1 x2 ds (sortN (leadS r rows)) (some (.fz d)) _ y6 y7 (k + 3) (by rw [ll]; omega) hm2 (by omega)
theorem M_leading_eq {r : Ru} (ok : r.Ok) {l : List Nat} (h : rowOk r l) {n : Nat} (hn : n ≤ 4) : M_leading [rD r, sD l, .int n] = (match leadR r n [l] with
    | none => .ex "TooMany"
    | some res => .ok (.list (res.map sD))) := by
  have hw : M_is_within [.int n, .int 0, .int 4] = .ok (.bool true) := within_yes (by omega)
  have z : 1 ≤ sizeLine := size1 (by omega)
  have hr : inR (n : Int) = true := inR_of (by omega) (by omega)
  have tu := ld_turns ok (some (.fz (sD l))) (some (.fz (.int n))) (rangeD 0 n) [l] none none none none 24 (by simp) (by intro x hx; simp at hx; subst hx; exact ⟨h.1, h.2⟩) (by rw [rangeD_len]; omega)
  rw [rangeD_len] at tu
  have e : M_leading [rD r, sD l, .int n] = outD (Fl.seq (forL (gN 4) ldTurn (rangeD 0 n) [some (.fz (rD r)), some (.fz (sD l)), some (.fz (.int n)), some (.fz (.list ([l].map sD))), none, none, none, none]) (sRet (eVar 3))) := by
    simp [M_leading, f_leading, startE, M_look_row_ok ok h, hw, z, hr, ldTurn, ldOut, ldPut]
  rw [e]
  rcases tu with ⟨t1, ρ, t2⟩ | ⟨res, y4, y5, y6, y7, t1, t2⟩
  · rw [t1, t2]; simp
  · rw [t1, t2]; simp
end DL
namespace DL
open PySem PySem.Spec L2
def f__law_all_names__0 : DS := sSeq (sIf (t2 dEq (eVar 0) (eC (.str ""))) (sRet (eFz (nLst (aCons (eC (.str "")) (aNil))))) (sNil)) (sSeq (sAsg 1 (eFz (nLst (aNil)))) (sSeq (sFor (iEnS (aCons (eVar 0) (aNil))) (gN2 2 3) (sAsg 1 (e2 dAdd (eVar 1) (eFz (nLc [4] (iSeq (eNever)) (gN 4) (tTrue) (e2 dAdd (eVar 3) (eVar 4))))))) (sRet (eVar 1))))
def M__law_all_names__0 : List D → Rs D := fun ds => outD (f__law_all_names__0 (startE 5 ds))

def f__law_all_names__1 : DS := sSeq (sIf (t2 dEq (eVar 0) (eC (.str ""))) (sRet (eFz (nLst (aCons (eC (.str "")) (aNil))))) (sNil)) (sSeq (sAsg 1 (eFz (nLst (aNil)))) (sSeq (sFor (iEnS (aCons (eVar 0) (aNil))) (gN2 2 3) (sAsg 1 (e2 dAdd (eVar 1) (eFz (nLc [4] (iSeq (eCall 1 M__law_all_names__0 (aCons (e2 dAdd (eCut (eVar 0) (oNone) (oSome (eVar 2))) (eCut (eVar 0) (oSome (e2 dAdd (eVar 2) (eC (.int 1)))) (oNone))) (aNil)))) (gN 4) (tTrue) (e2 dAdd (eVar 3) (eVar 4))))))) (sRet (eVar 1))))
def M__law_all_names__1 : List D → Rs D := fun ds => outD (f__law_all_names__1 (startE 5 ds))

def f__law_all_names__2 : DS := sSeq (sIf (t2 dEq (eVar 0) (eC (.str ""))) (sRet (eFz (nLst (aCons (eC (.str "")) (aNil))))) (sNil)) (sSeq (sAsg 1 (eFz (nLst (aNil)))) (sSeq (sFor (iEnS (aCons (eVar 0) (aNil))) (gN2 2 3) (sAsg 1 (e2 dAdd (eVar 1) (eFz (nLc [4] (iSeq (eCall 1 M__law_all_names__1 (aCons (e2 dAdd (eCut (eVar 0) (oNone) (oSome (eVar 2))) (eCut (eVar 0) (oSome (e2 dAdd (eVar 2) (eC (.int 1)))) (oNone))) (aNil)))) (gN 4) (tTrue) (e2 dAdd (eVar 3) (eVar 4))))))) (sRet (eVar 1))))
def M__law_all_names__2 : List D → Rs D := fun ds => outD (f__law_all_names__2 (startE 5 ds))

def f__law_all_names__3 : DS := sSeq (sIf (t2 dEq (eVar 0) (eC (.str ""))) (sRet (eFz (nLst (aCons (eC (.str "")) (aNil))))) (sNil)) (sSeq (sAsg 1 (eFz (nLst (aNil)))) (sSeq (sFor (iEnS (aCons (eVar 0) (aNil))) (gN2 2 3) (sAsg 1 (e2 dAdd (eVar 1) (eFz (nLc [4] (iSeq (eCall 1 M__law_all_names__2 (aCons (e2 dAdd (eCut (eVar 0) (oNone) (oSome (eVar 2))) (eCut (eVar 0) (oSome (e2 dAdd (eVar 2) (eC (.int 1)))) (oNone))) (aNil)))) (gN 4) (tTrue) (e2 dAdd (eVar 3) (eVar 4))))))) (sRet (eVar 1))))
def M__law_all_names__3 : List D → Rs D := fun ds => outD (f__law_all_names__3 (startE 5 ds))

def f__law_all_names__4 : DS := sSeq (sIf (t2 dEq (eVar 0) (eC (.str ""))) (sRet (eFz (nLst (aCons (eC (.str "")) (aNil))))) (sNil)) (sSeq (sAsg 1 (eFz (nLst (aNil)))) (sSeq (sFor (iEnS (aCons (eVar 0) (aNil))) (gN2 2 3) (sAsg 1 (e2 dAdd (eVar 1) (eFz (nLc [4] (iSeq (eCall 1 M__law_all_names__3 (aCons (e2 dAdd (eCut (eVar 0) (oNone) (oSome (eVar 2))) (eCut (eVar 0) (oSome (e2 dAdd (eVar 2) (eC (.int 1)))) (oNone))) (aNil)))) (gN 4) (tTrue) (e2 dAdd (eVar 3) (eVar 4))))))) (sRet (eVar 1))))
def M__law_all_names__4 : List D → Rs D := fun ds => outD (f__law_all_names__4 (startE 5 ds))

def M__law_all_names : List D → Rs D := M__law_all_names__4

def f__law_some_names : DS := sSeq (sAsg 3 (eCall 1 M__law_all_names (aCons (eCut (eC (.str "abc")) (oNone) (oSome (eVar 2))) (aNil)))) (sRet (e2 dIx (eVar 3) (e2 dMod (eCall 2 M__law_cell (aCons (eVar 0) (aCons (eVar 1) (aNil)))) (eB dLen (aCons (eVar 3) (aNil))))))
def M__law_some_names : List D → Rs D := fun ds => outD (f__law_some_names (startE 4 ds))

def f__law_by : DS := sRet (eM "str" dJoin (eC (.str "")) (aCons (eFz (nLc [2] (iSeq (eVar 0)) (gN 2) (tTrue) (e2 dIx (eVar 1) (eM "str" dSIdx (eC (.str "abc")) (aCons (eVar 2) (aNil)))))) (aNil)))
def M__law_by : List D → Rs D := fun ds => outD (f__law_by (startE 3 ds))

def f_look_names : DS := sIf (tOr (tNot (tTru (eIsi "str" (eVar 1)))) (t2 dNe (eFz (nB dSortA (aCons (eVar 1) (aNil)))) (eFz (nB dListA (aCons (eCut (eC (.str "abc")) (oNone) (oSome (eB dLen (aCons (e2 dIx (eVar 0) (eC (.int 1))) (aNil))))) (aNil)))))) (sRaise "BadNames") (sNil)
def M_look_names : List D → Rs D := fun ds => outD (f_look_names (startE 2 ds))

def f_named_word : DS := sRet (eM "str" dJoin (eC (.str "")) (aCons (eFz (nLc [2] (iSeq (eVar 0)) (gN 2) (tTrue) (e2 dIx (eVar 1) (eM "str" dSIdx (eC (.str "abc")) (aCons (eVar 2) (aNil)))))) (aNil)))
def M_named_word : List D → Rs D := fun ds => outD (f_named_word (startE 3 ds))

def f_named : DS := sSeq (sOwn 2 (nRep (eFz (nLst (aCons (eC .none) (aNil)))) (eB dLen (aCons (eVar 1) (aNil))))) (sSeq (sFor (iZ2 (aCons (eVar 1) (aCons (e2 dIx (eVar 0) (eC (.int 1))) (aNil)))) (gN2 3 4) (sSetI 2 (eM "str" dSIdx (eC (.str "abc")) (aCons (eVar 3) (aNil))) (eIf (t2 dIs (eVar 4) (eC .none)) (eC .none) (eCall 2 M_named_word (aCons (eVar 4) (aCons (eVar 1) (aNil))))))) (sRet (eTup (aCons (e2 dIx (eVar 0) (eC (.int 0))) (aCons (eB dTuple (aCons (eVarB 2) (aNil))) (aNil))))))
def M_named : List D → Rs D := fun ds => outD (f_named (startE 5 ds))

def f_renamed : DS := sSeq (sExpr (eCall 1 M_look (aCons (eVar 0) (aNil)))) (sSeq (sExpr (eCall 2 M_look_names (aCons (eVar 0) (aCons (eVar 1) (aNil))))) (sRet (eCall 2 M_named (aCons (eVar 0) (aCons (eVar 1) (aNil))))))
def M_renamed : List D → Rs D := fun ds => outD (f_renamed (startE 2 ds))

def f_renamed_row : DS := sSeq (sExpr (eCall 2 M_look_row (aCons (eVar 0) (aCons (eVar 1) (aNil))))) (sSeq (sExpr (eCall 2 M_look_names (aCons (eVar 0) (aCons (eVar 2) (aNil))))) (sRet (eCall 2 M_named_word (aCons (eVar 1) (aCons (eVar 2) (aNil))))))
def M_renamed_row : List D → Rs D := fun ds => outD (f_renamed_row (startE 3 ds))

def f_shown : DS := sSeq (sExpr (eCall 1 M_look (aCons (eVar 0) (aNil)))) (sSeq (sOwn 1 (nLst (aCons (eB dStr (aCons (e2 dIx (eVar 0) (eC (.int 0))) (aNil))) (aNil)))) (sSeq (sFor (iZ2 (aCons (eC (.str "abc")) (aCons (e2 dIx (eVar 0) (eC (.int 1))) (aNil)))) (gN2 2 3) (sApp 1 (e2 dAdd (e2 dAdd (eVar 2) (eC (.str ":"))) (eIf (t2 dIs (eVar 3) (eC .none)) (eC (.str "-")) (eVar 3))))) (sRet (eM "str" dJoin (eC (.str " ")) (aCons (eVarB 1) (aNil))))))
def M_shown : List D → Rs D := fun ds => outD (f_shown (startE 4 ds))

def f_all_names : DS := sSeq (sAsg 1 (eFz (nLst (aCons (eC (.str "")) (aNil))))) (sSeq (sFor (iSeq (eCut (eC (.str "abc")) (oNone) (oSome (eVar 0)))) (gN 2) (sSeq (sOwn 3 (nLst (aNil))) (sSeq (sFor (iSeq (eVar 1)) (gN 4) (sExt 3 (eFz (nLc [5] (iR1 (aCons (e2 dAdd (eB dLen (aCons (eVar 4) (aNil))) (eC (.int 1))) (aNil))) (gN 5) (tTrue) (e2 dAdd (e2 dAdd (eCut (eVar 4) (oNone) (oSome (eVar 5))) (eVar 2)) (eCut (eVar 4) (oSome (eVar 5)) (oNone))))))) (sFz 3 (sAsg 1 (eVar 3)))))) (sRet (eFz (nB dSorted (aCons (eVar 1) (aNil))))))
def M_all_names : List D → Rs D := fun ds => outD (f_all_names (startE 6 ds))

def f_least_text : DS := sSeq (sExpr (eCall 1 M_look (aCons (eVar 0) (aNil)))) (sRet (eB dMin (aCons (eFz (nLc [1] (iSeq (eCall 1 M_all_names (aCons (eB dLen (aCons (e2 dIx (eVar 0) (eC (.int 1))) (aNil))) (aNil)))) (gN 1) (tTrue) (eCall 1 M_shown (aCons (eCall 2 M_named (aCons (eVar 0) (aCons (eVar 1) (aNil)))) (aNil))))) (aNil))))
def M_least_text : List D → Rs D := fun ds => outD (f_least_text (startE 2 ds))

def f_same_kind : DS := sSeq (sExpr (eCall 1 M_look (aCons (eVar 0) (aNil)))) (sSeq (sExpr (eCall 1 M_look (aCons (eVar 1) (aNil)))) (sRet (eB dBoolL (aCons (eFz (nLc [2] (iSeq (eCall 1 M_all_names (aCons (eB dLen (aCons (e2 dIx (eVar 0) (eC (.int 1))) (aNil))) (aNil)))) (gN 2) (t2 dEq (eCall 2 M_named (aCons (eVar 0) (aCons (eVar 2) (aNil)))) (eVar 1)) (eVar 2))) (aNil)))))
def M_same_kind : List D → Rs D := fun ds => outD (f_same_kind (startE 3 ds))

end DL
namespace DL
open PySem PySem.Spec L2
/-! ### an order of letters -/
structure Ord (n : Nat) (gs : List Nat) : Prop where
  len : gs.length = n
  lt : ∀ g ∈ gs, g < n
  nd : gs.Nodup
theorem nd_inj {l : List Nat} (h : l.Nodup) {i j : Nat} (hi : i < l.length) (hj : j < l.length) (e : l[i] = l[j]) : i = j := by
  have hp := List.pairwise_iff_getElem.mp h
  by_cases q : i < j
  · exact absurd e (hp i j hi hj q)
  · by_cases q2 : j < i
    · exact absurd e.symm (hp j i hj hi q2)
    · omega
def ledF (gs : List Nat) (c : Nat) : Nat := 97 + (gs[c - 97]?).getD 0
theorem ledF_at {n : Nat} {gs : List Nat} (h : Ord n gs) {c : Nat} (h1 : 97 ≤ c) (h2 : c < 97 + n) : ∃ g, gs[c - 97]? = some g ∧ ledF gs c = 97 + g ∧ g < n := by
  have hl : c - 97 < gs.length := by rw [h.len]; omega
  refine ⟨gs[c - 97], List.getElem?_eq_getElem hl, ?_, h.lt _ (List.getElem_mem hl)⟩
  unfold ledF
  rw [List.getElem?_eq_getElem hl]; rfl
/-! ### rules by other letters -/
def setAll (gs : List Nat) (ws : List (Option (List Nat))) : List Nat → List (Option (List Nat)) → List (Option (List Nat))
  | [], acc => acc
  | k :: ks, acc => setAll gs ws ks (acc.set ((gs[k]?).getD 0) (((ws[k]?).getD none).map (List.map (ledF gs))))
theorem setAll_len (gs : List Nat) (ws : List (Option (List Nat))) : ∀ (ks : List Nat) (acc : List (Option (List Nat))), (setAll gs ws ks acc).length = acc.length
  | [], _ => rfl
  | k :: ks, acc => by rw [setAll, setAll_len gs ws ks, List.length_set]
theorem setAll_mem (gs : List Nat) (ws : List (Option (List Nat))) : ∀ (ks : List Nat) (acc : List (Option (List Nat))) (x : Option (List Nat)), x ∈ setAll gs ws ks acc → x ∈ acc ∨ ∃ k : Nat, x = ((ws[k]?).getD none).map (List.map (ledF gs))
  | [], _, _, h => .inl h
  | k :: ks, acc, x, h => by
    rcases setAll_mem gs ws ks _ x h with h | h
    · rcases List.mem_or_eq_of_mem_set h with h | h
      · exact .inl h
      · exact .inr ⟨k, h⟩
    · exact .inr h
theorem setAll_keep {n : Nat} {gs : List Nat} (h : Ord n gs) (ws : List (Option (List Nat))) : ∀ (ks : List Nat) (acc : List (Option (List Nat))) (j : Nat), (∀ k ∈ ks, k < n) → j < n → j ∉ ks → acc.length = n → (setAll gs ws ks acc)[(gs[j]?).getD 0]? = acc[(gs[j]?).getD 0]?
  | [], _, _, _, _, _, _ => rfl
  | k :: ks, acc, j, hk, hj, hn, ha => by
    rw [setAll, setAll_keep h ws ks _ j (fun k hk' => hk k (by simp [hk'])) hj (fun z => hn (by simp [z])) (by rw [List.length_set]; exact ha)]
    have hk1 := hk k (by simp)
    have lk : k < gs.length := by rw [h.len]; exact hk1
    have lj : j < gs.length := by rw [h.len]; exact hj
    rw [List.getElem?_eq_getElem lk, List.getElem?_eq_getElem lj]
    simp only [Option.getD_some]
    have ne : gs[k] ≠ gs[j] := fun z => by
      have := nd_inj h.nd lk lj z
      exact hn (by simp [this])
    rw [List.getElem?_set, if_neg ne]
theorem setAll_at {n : Nat} {gs : List Nat} (h : Ord n gs) (ws : List (Option (List Nat))) : ∀ (ks : List Nat) (acc : List (Option (List Nat))) (j : Nat), (∀ k ∈ ks, k < n) → ks.Nodup → j ∈ ks → acc.length = n → (setAll gs ws ks acc)[(gs[j]?).getD 0]? = some (((ws[j]?).getD none).map (List.map (ledF gs)))
  | [], _, _, _, _, hj, _ => by cases hj
  | k :: ks, acc, j, hk, hnd, hj, ha => by
    rw [setAll]
    have hk1 := hk k (by simp)
    have lk : k < gs.length := by rw [h.len]; exact hk1
    rw [List.nodup_cons] at hnd
    rcases List.mem_cons.mp hj with rfl | hj
    · rw [setAll_keep h ws ks _ j (fun k hk' => hk k (by simp [hk'])) hk1 hnd.1 (by rw [List.length_set]; exact ha)]
      rw [List.getElem?_eq_getElem lk]
      simp only [Option.getD_some]
      rw [List.getElem?_set_self (by rw [ha]; exact h.lt _ (List.getElem_mem lk))]
    · exact setAll_at h ws ks _ j (fun k hk' => hk k (by simp [hk'])) hnd.2 hj (by rw [List.length_set]; exact ha)
def renR (r : Ru) (gs : List Nat) : Ru := ⟨r.cut, setAll gs r.ws (List.range r.ws.length) (List.replicate r.ws.length none)⟩
theorem renR_ren {r : Ru} {gs : List Nat} (h : Ord r.ws.length gs) : Ren r (renR r gs) (ledF gs) where
  n := by show (setAll _ _ _ _).length = _; rw [setAll_len, List.length_replicate]
  c := rfl
  m := fun c h1 h2 => by
    obtain ⟨g, _, e, hg⟩ := ledF_at h h1 h2
    omega
  i := fun c d h1 h2 h3 h4 e => by
    have lc : c - 97 < gs.length := by rw [h.len]; omega
    have ld : d - 97 < gs.length := by rw [h.len]; omega
    unfold ledF at e
    rw [List.getElem?_eq_getElem lc, List.getElem?_eq_getElem ld] at e
    simp only [Option.getD_some] at e
    have := nd_inj h.nd lc ld (by omega)
    omega
  w := fun c h1 h2 => by
    unfold wordOf
    have e := setAll_at h r.ws (List.range r.ws.length) (List.replicate r.ws.length none) (c - 97) (fun k hk => List.mem_range.mp hk) List.nodup_range (List.mem_range.mpr (by omega)) (List.length_replicate ..)
    have e1 : ledF gs c - 97 = (gs[c - 97]?).getD 0 := by unfold ledF; omega
    rw [e1]
    show ((setAll gs r.ws (List.range r.ws.length) (List.replicate r.ws.length none))[(gs[c - 97]?).getD 0]?).getD none = _
    rw [e]; rfl
theorem renR_ok {r : Ru} (ok : r.Ok) {gs : List Nat} (h : Ord r.ws.length gs) : (renR r gs).Ok := by
  have hr := renR_ren h
  have hn := hr.n
  refine ⟨ok.c1, ok.c3, by rw [hn]; exact ok.n1, by rw [hn]; exact ok.n3, fun x hx => ?_⟩
  rw [hn]
  rcases setAll_mem gs r.ws _ _ _ hx with hx | ⟨k, hk⟩
  · have := List.eq_of_mem_replicate hx
    cases this
  · cases q : (r.ws[k]?).getD none with
    | none => rw [q] at hk; cases hk
    | some y =>
      rw [q] at hk
      cases hk
      have hy : some y ∈ r.ws := by
        cases q2 : r.ws[k]? with
        | none => rw [q2] at q; cases q
        | some z => rw [q2] at q; simp at q; subst q; exact List.mem_of_getElem? q2
      have := ok.w y hy
      exact ⟨by rw [List.length_map]; exact this.1, hr.lt this.2⟩
/-! ### names -/
def pOf (gs : List Nat) : List Nat := gs.map fun g => 97 + g
def ordsN : Nat → List (List Nat)
  | 1 => [[0]]
  | 2 => [[0, 1], [1, 0]]
  | 3 => [[0, 1, 2], [0, 2, 1], [1, 0, 2], [1, 2, 0], [2, 0, 1], [2, 1, 0]]
  | _ => []
theorem ords_ord {n : Nat} {gs : List Nat} (h1 : 1 ≤ n) (h3 : n ≤ 3) (h : gs ∈ ordsN n) : Ord n gs := by
  have : n = 1 ∨ n = 2 ∨ n = 3 := by omega
  rcases this with rfl | rfl | rfl
  all_goals
    simp only [ordsN, List.mem_cons, List.not_mem_nil, or_false] at h
  · subst h; exact ⟨rfl, by decide, by decide⟩
  · rcases h with rfl | rfl <;> exact ⟨rfl, by decide, by decide⟩
  · rcases h with rfl | rfl | rfl | rfl | rfl | rfl <;> exact ⟨rfl, by decide, by decide⟩
theorem pOf_len {n : Nat} {gs : List Nat} (h : Ord n gs) : (pOf gs).length = n := by rw [pOf, List.length_map, h.len]
theorem pOf_lt {n : Nat} {gs : List Nat} (h : Ord n gs) : Lt n (pOf gs) := fun c hc => by
  obtain ⟨g, hg, rfl⟩ := List.mem_map.mp hc
  have := h.lt g hg
  omega
theorem pOf_at {n : Nat} {gs : List Nat} (h : Ord n gs) {c : Nat} (h1 : 97 ≤ c) (h2 : c < 97 + n) : (pOf gs)[c - 97]? = some (ledF gs c) := by
  obtain ⟨g, g1, g2, _⟩ := ledF_at h h1 h2
  rw [pOf, List.getElem?_map, g1, g2]; rfl
theorem nw_lc {n : Nat} (hn : n ≤ 3) {gs : List Nat} (h : Ord n gs) {w : List Nat} (hw : Lt n w) : lcL (gN 2) tTrue (e2 dIx (eVar 1) (eM "str" dSIdx (eC (.str (Str.ofString "abc"))) (aCons (eVar 2) (aNil)))) [some (.fz (sD w)), some (.fz (sD (pOf gs))), none] (w.map fun c => sD [c]) = .ok ((w.map (ledF gs)).map fun c => sD [c]) := by
  rw [List.map_map]
  refine lcL_all _ _ _ fun c hc => ?_
  obtain ⟨h1, h2⟩ := hw c hc
  have hx := idx_abc h1 (by omega)
  have hi := ix_sD (pOf_at h h1 h2)
  generalize c - 97 = k at hx hi
  simp only [Function.comp_apply]
  simp [hx, -v_ix3, hi]
theorem M_named_word_eq {n : Nat} (hn : n ≤ 3) {gs : List Nat} (h : Ord n gs) {w : List Nat} (hw : Lt n w) (hl : w.length ≤ 10000) : M_named_word [sD w, sD (pOf gs)] = .ok (sD (w.map (ledF gs))) := by
  have z : w.length ≤ sizeLine := size1 (by omega)
  have z2 : (w.map (ledF gs)).length ≤ sizeLine := by rw [List.length_map]; exact z
  have lc := nw_lc hn h hw
  have vj := v_joinL _ z2
  generalize (w.map (ledF gs)).map (fun c => sD [c]) = res at lc vj
  simp [M_named_word, f_named_word, startE, z, lc, vj]
theorem M_law_by_eq {n : Nat} (hn : n ≤ 3) {gs : List Nat} (h : Ord n gs) {w : List Nat} (hw : Lt n w) (hl : w.length ≤ 10000) : M__law_by [sD w, sD (pOf gs)] = .ok (sD (w.map (ledF gs))) := by
  have z : w.length ≤ sizeLine := size1 (by omega)
  have z2 : (w.map (ledF gs)).length ≤ sizeLine := by rw [List.length_map]; exact z
  have lc := nw_lc hn h hw
  have vj := v_joinL _ z2
  generalize (w.map (ledF gs)).map (fun c => sD [c]) = res at lc vj
  simp [M__law_by, f__law_by, startE, z, lc, vj]
end DL
namespace DL
open PySem PySem.Spec L2
theorem dNe_strs2x (a b : List (List Nat)) : dNe (.list (a.map sD)) (.list (b.map sD)) = some (.bool (!decide (a = b))) := by
  unfold dNe
  rw [if_pos (by simp [depth_strs])]
  have : PyData.eqv (.list (a.map sD)) (.list (b.map sD)) = decide (a = b) := by
    show PyData.eqvAll (a.map sD) (b.map sD) = _
    induction a generalizing b with
    | nil => cases b <;> rfl
    | cons x a ih =>
      cases b with
      | nil => rfl
      | cons y b =>
        show (PyData.eqv (sD x) (sD y) && PyData.eqvAll (a.map sD) (b.map sD)) = _
        rw [eqv_sD, ih b]
        by_cases h : x = y <;> by_cases h2 : a = b <;> simp [h, h2]
  rw [this]
theorem zipD_at : ∀ (a b : List PyData) (i : Nat), (zipD a b)[i]? = match a[i]?, b[i]? with | some x, some y => some (.tuple [x, y]) | _, _ => none
  | [], b, i => by cases b <;> simp [zipD]
  | a :: r, [], i => by simp [zipD]
  | a :: r, b :: s, 0 => rfl
  | a :: r, b :: s, i + 1 => by simpa [zipD] using zipD_at r s i
theorem zip_range {n : Nat} {gs : List Nat} {ws : List (Option (List Nat))} (h1 : gs.length = n) (h2 : ws.length = n) (f : Nat → PyData) (g : Option (List Nat) → PyData) : zipD (gs.map f) (ws.map g) = (List.range n).map fun k => .tuple [f ((gs[k]?).getD 0), g ((ws[k]?).getD none)] := by
  apply List.ext_getElem?
  intro i
  rw [zipD_at, List.getElem?_map, List.getElem?_map, List.getElem?_map]
  by_cases h : i < n
  · have a1 := List.getElem?_eq_getElem (by omega : i < gs.length)
    have a2 := List.getElem?_eq_getElem (by omega : i < ws.length)
    rw [a1, a2, List.getElem?_range h]
    simp only [Option.map_some, a1, a2, Option.getD_some]
  · rw [List.getElem?_eq_none (by omega : gs.length ≤ i), List.getElem?_eq_none (by rw [List.length_range]; omega : (List.range n).length ≤ i)]
    rfl
def ndBody : DS := (sSetI 2 (eM "str" dSIdx (eC (.str "abc")) (aCons (eVar 3) (aNil))) (eIf (t2 dIs (eVar 4) (eC .none)) (eC .none) (eCall 2 M_named_word (aCons (eVar 4) (aCons (eVar 1) (aNil))))))
theorem nd_loop {r : Ru} (ok : r.Ok) {gs : List Nat} (h : Ord r.ws.length gs) : ∀ (ks : List Nat) (acc : List (Option (List Nat))) (x3 x4 : Option LV), (∀ k ∈ ks, k < r.ws.length) → acc.length = r.ws.length →
    ∃ y3 y4, forL (gN2 3 4) ndBody (ks.map fun k => .tuple [sD [97 + (gs[k]?).getD 0], wD ((r.ws[k]?).getD none)]) [some (.fz (rD r)), some (.fz (sD (pOf gs))), some (.own (acc.map wD)), x3, x4] = .nx [some (.fz (rD r)), some (.fz (sD (pOf gs))), some (.own ((setAll gs r.ws ks acc).map wD)), y3, y4]
  | [], acc, x3, x4, _, _ => ⟨x3, x4, rfl⟩
  | k :: ks, acc, x3, x4, hk, ha => by
    have n3 := ok.n3
    have hk1 := hk k List.mem_cons_self
    have lk : k < gs.length := by rw [h.len]; exact hk1
    have eg : (gs[k]?).getD 0 = gs[k] := by rw [List.getElem?_eq_getElem lk]; rfl
    have ew : (r.ws[k]?).getD none = r.ws[k] := by rw [List.getElem?_eq_getElem hk1]; rfl
    have gl := h.lt _ (List.getElem_mem lk)
    obtain ⟨y3, y4, ih⟩ := nd_loop ok h ks (acc.set gs[k] (r.ws[k].map (List.map (ledF gs)))) (some (.fz (sD [97 + gs[k]]))) (some (.fz (wD r.ws[k]))) (fun k hk' => hk k (by simp [hk'])) (by rw [List.length_set]; exact ha)
    refine ⟨y3, y4, ?_⟩
    have es : setAll gs r.ws (k :: ks) acc = setAll gs r.ws ks (acc.set gs[k] (r.ws[k].map (List.map (ledF gs)))) := by rw [setAll, eg, ew]
    rw [es, ← ih, List.map_cons, eg, ew]
    have hx := idx_abc (c := 97 + gs[k]) (by omega) (by omega)
    have e0 : 97 + gs[k] - 97 = gs[k] := by omega
    rw [e0] at hx
    have sn := fun ρ d => setF_nat 2 ρ (acc.map wD) d (m := gs[k]) (by rw [List.length_map, ha]; exact gl)
    refine forL_step (ρ1 := [some (.fz (rD r)), some (.fz (sD (pOf gs))), some (.own (acc.map wD)), some (.fz (sD [97 + gs[k]])), some (.fz (wD r.ws[k]))]) rfl ?_
    cases q : r.ws[k] with
    | none => simp [ndBody, wD, hx, sn, List.map_set]
    | some w =>
      have okw := ok.w w (q ▸ List.getElem_mem hk1)
      have nw := M_named_word_eq n3 h okw.2 (by omega)
      simp [ndBody, wD, hx, sn, nw, List.map_set]
theorem M_named_eq {r : Ru} (ok : r.Ok) {gs : List Nat} (h : Ord r.ws.length gs) : M_named [rD r, sD (pOf gs)] = .ok (rD (renR r gs)) := by
  have n1 := ok.n1
  have n3 := ok.n3
  have pl := pOf_len h
  obtain ⟨y3, y4, lp⟩ := nd_loop ok h (List.range r.ws.length) (List.replicate r.ws.length none) none none (fun k hk => List.mem_range.mp hk) (List.length_replicate ..)
  have zr := zip_range h.len (rfl : r.ws.length = r.ws.length) (fun g => sD [97 + g]) wD
  have ez : ∀ ρ : En, ρ[0]? = some (some (.fz (rD r))) → ρ[1]? = some (some (.fz (sD (pOf gs)))) → iZ2 (aCons (eVar 1) (aCons (e2 dIx (eVar 0) (eC (.int 1))) (aNil))) ρ = .ok ((List.range r.ws.length).map fun k => .tuple [sD [97 + (gs[k]?).getD 0], wD ((r.ws[k]?).getD none)]) := fun ρ a b => by
    rw [← zr]
    have e : (pOf gs).map (fun c => sD [c]) = gs.map fun g => sD [97 + g] := by simp [pOf]
    rw [← e]
    simp [iZ2, a, b, seqD]
  have ez := ez [some (.fz (rD r)), some (.fz (sD (pOf gs))), some (.own ((List.replicate r.ws.length none).map wD)), none, none] rfl rfl
  have z2 : 2 ≤ sizeLine := size1 (by omega)
  have z1 : 1 ≤ sizeLine := size1 (by omega)
  have zn : r.ws.length ≤ sizeLine := size1 (by omega)
  have rp : nRep (eFz (nLst (aCons (eC .none) (aNil)))) (eB dLen (aCons (eVar 1) (aNil))) [some (.fz (rD r)), some (.fz (sD (pOf gs))), none, none, none] = .ok ((List.replicate r.ws.length none).map wD) := by
    have c1 : -9223372036854775808 ≤ (r.ws.length : Int) ∧ (r.ws.length : Int) < 9223372036854775808 := by omega
    have e : (List.replicate r.ws.length [PyData.none]).flatten = (List.replicate r.ws.length none).map wD := by
      generalize r.ws.length = m
      induction m with
      | zero => rfl
      | succ m ih => rw [List.replicate_succ, List.flatten_cons, ih, List.replicate_succ, List.map_cons]; rfl
    simp [nRep, z1, pl, c1, zn, ← e]
  generalize ((List.range r.ws.length).map fun k => PyData.tuple [sD [97 + (gs[k]?).getD 0], wD ((r.ws[k]?).getD none)]) = zz at ez lp
  simp only [ndBody] at lp
  have er : rD (renR r gs) = .tuple [.int r.cut, .tuple ((setAll gs r.ws (List.range r.ws.length) (List.replicate r.ws.length none)).map wD)] := rfl
  rw [er]
  generalize setAll gs r.ws (List.range r.ws.length) (List.replicate r.ws.length none) = ww at lp
  generalize (List.replicate r.ws.length none).map wD = rr at rp ez lp
  simp [M_named, f_named, startE, rp, ez, lp, z2]
/-! ### look_names -/
theorem sgn_S (l : List Nat) : sgn (S l) = l.map fun c => S [c] := by unfold sgn; simp
theorem dSortA_S (l : List Nat) : dSortA [sD l] = some ((sortN (l.map fun c => [c])).map sD) := by
  show some ((sortS (sgn (S l))).map PyData.str) = _
  have e : sgn (S l) = (l.map fun c => [c]).map S := by rw [sgn_S, List.map_map]; rfl
  rw [e, sortS_S, List.map_map]; rfl
theorem dListA_S (l : List Nat) : dListA [sD l] = some ((l.map fun c => [c]).map sD) := by
  show some (signs (S l)) = _
  rw [signs_sgn, sgn_S, List.map_map, List.map_map]; rfl
theorem sort_one {l m : List Nat} (hp : l.Perm m) (hs : m.Pairwise (· ≤ ·)) : sortN (l.map fun c => [c]) = m.map fun c => [c] := by
  rw [sortN_perm (hp.map _)]
  refine List.mergeSort_of_pairwise (le := leN) ?_
  rw [List.pairwise_map]
  refine hs.imp fun {a b} hab => ?_
  unfold leN
  simp only [Bool.not_eq_true', decide_eq_false_iff_not]
  intro z
  rw [List.cons_lt_cons_iff] at z
  rcases z with z | ⟨_, z⟩
  · omega
  · exact List.not_lt_nil _ z
theorem lets_rise (n : Nat) : ([97, 98, 99].take n).Pairwise (· ≤ ·) := List.Pairwise.sublist (List.take_sublist n [97, 98, 99]) (by decide)
theorem M_look_names_sorted {r : Ru} (ok : r.Ok) {l : List Nat} (hl : l.length ≤ 1000) : M_look_names [rD r, sD l] = if sortN (l.map fun c => [c]) = (lets r).map fun c => [c] then .ok .none else .ex "BadNames" := by
  have n3 := ok.n3
  have ca : cutS (Str.ofString "abc") none (some (r.ws.length : Int)) = S (lets r) := cut_abc n3
  have d1 := dSortA_S l
  have d2 := dListA_S (lets r)
  have ne := dNe_strs2x (sortN (l.map fun c => [c])) ((lets r).map fun c => [c])
  generalize sortN (l.map fun c => [c]) = a at d1 ne ⊢
  generalize (lets r).map (fun c => [c]) = b at d2 ne ⊢
  by_cases q : a = b
  · rw [decide_eq_true q] at ne
    subst q
    simp [M_look_names, f_look_names, startE, ca, d1, d2, ne]
  · rw [decide_eq_false q] at ne
    simp [M_look_names, f_look_names, startE, ca, d1, d2, ne, q]
end DL
namespace DL
open PySem PySem.Spec L2
/-! ### all orders of letters -/
def fAN (M : List PyData → Rs PyData) : DS := sSeq (sIf (t2 dEq (eVar 0) (eC (.str ""))) (sRet (eFz (nLst (aCons (eC (.str "")) (aNil))))) (sNil)) (sSeq (sAsg 1 (eFz (nLst (aNil)))) (sSeq (sFor (iEnS (aCons (eVar 0) (aNil))) (gN2 2 3) (sAsg 1 (e2 dAdd (eVar 1) (eFz (nLc [4] (iSeq (eCall 1 M (aCons (e2 dAdd (eCut (eVar 0) (oNone) (oSome (eVar 2))) (eCut (eVar 0) (oSome (e2 dAdd (eVar 2) (eC (.int 1)))) (oNone))) (aNil)))) (gN 4) (tTrue) (e2 dAdd (eVar 3) (eVar 4))))))) (sRet (eVar 1))))
def anBody (M : List PyData → Rs PyData) : DS := (sAsg 1 (e2 dAdd (eVar 1) (eFz (nLc [4] (iSeq (eCall 1 M (aCons (e2 dAdd (eCut (eVar 0) (oNone) (oSome (eVar 2))) (eCut (eVar 0) (oSome (e2 dAdd (eVar 2) (eC (.int 1)))) (oNone))) (aNil)))) (gN 4) (tTrue) (e2 dAdd (eVar 3) (eVar 4))))))
def less (l : List Nat) (i : Nat) : List Nat := l.take i ++ l.drop (i + 1)
def anL (g : List Nat → List (List Nat)) (l : List Nat) (is : List Nat) : List (List Nat) := is.flatMap fun i => (g (less l i)).map fun o => (l[i]?).getD 0 :: o
theorem an_loop {M : List PyData → Rs PyData} {g : List Nat → List (List Nat)} {l : List Nat} (h3 : l.length ≤ 3) (hM : ∀ i, i < l.length → M [sD (less l i)] = .ok (.list ((g (less l i)).map sD)) ∧ (g (less l i)).length ≤ 10 ∧ ∀ o ∈ g (less l i), o.length ≤ 10) :
    ∀ (is : List Nat) (acc : List (List Nat)) (x2 x3 x4 : Option LV), (∀ i ∈ is, i < l.length) → acc.length + 10 * is.length ≤ 1000 →
    ∃ y2 y3 y4, forL (gN2 2 3) (anBody M) (is.map fun i => .tuple [.int (i : Nat), sD [(l[i]?).getD 0]]) [some (.fz (sD l)), some (.fz (.list (acc.map sD))), x2, x3, x4] = .nx [some (.fz (sD l)), some (.fz (.list ((acc ++ anL g l is).map sD))), y2, y3, y4]
  | [], acc, x2, x3, x4, _, _ => ⟨x2, x3, x4, by simp [anL, forL]⟩
  | i :: is, acc, x2, x3, x4, hi, hl => by
    simp only [List.length_cons] at hl
    obtain ⟨m1, m2, m3⟩ := hM i (hi i List.mem_cons_self)
    have c1 := cutS_to l i
    have c2 := cutS_from l (i + 1)
    have e1 : ((i + 1 : Nat) : Int) = (i : Int) + 1 := by omega
    rw [e1] at c2
    have ll : (l.take i).length + (l.drop (i + 1)).length ≤ sizeLine := size1 (by rw [List.length_take, List.length_drop]; omega)
    have ad : S (l.take i) ++ S (l.drop (i + 1)) = S (less l i) := by simp [less]
    generalize hgl : g (less l i) = gl at m1 m2 m3
    generalize hc : (l[i]?).getD 0 = c
    have lc : lcL (gN 4) tTrue (e2 dAdd (eVar 3) (eVar 4)) [some (.fz (sD l)), some (.fz (.list (acc.map sD))), some (.fz (.int i)), some (.fz (sD [c])), none] (gl.map sD) = .ok (gl.map fun o => sD (c :: o)) := by
      refine lcL_all _ _ _ fun o ho => ?_
      have z : 1 + o.length ≤ sizeLine := size1 (by have := m3 o ho; omega)
      simp [z]
    obtain ⟨y2, y3, y4, ih⟩ := an_loop h3 hM is (acc ++ gl.map fun o => c :: o) (some (.fz (.int i))) (some (.fz (sD [c]))) x4 (fun j hj => hi j (List.mem_cons_of_mem _ hj)) (by simp; omega)
    refine ⟨y2, y3, y4, ?_⟩
    have ea : acc ++ anL g l (i :: is) = (acc ++ gl.map fun o => c :: o) ++ anL g l is := by
      rw [← hgl, ← hc, List.append_assoc]; rfl
    rw [ea, ← ih, List.map_cons, hc]
    have zg : gl.length ≤ sizeLine := size1 (by omega)
    have za : acc.length + gl.length ≤ sizeLine := size1 (by omega)
    have lw : (l.take i).length + (l.drop (i + 1)).length ≤ sizeLine := ll
    refine forL_step (ρ1 := [some (.fz (sD l)), some (.fz (.list (acc.map sD))), some (.fz (.int i)), some (.fz (sD [c])), x4]) rfl ?_
    simp only [List.length_take, List.length_drop] at lw
    simp [anBody, c1, c2, lw, ad, m1, zg, lc, za]
theorem enumD_signs (l : List Nat) : ∀ k, enumD k (l.map fun c => sD [c]) = (List.range l.length).map fun i => .tuple [.int ((k + i : Nat) : Int), sD [(l[i]?).getD 0]] := by
  induction l with
  | nil => intro k; rfl
  | cons a l ih =>
    intro k
    rw [List.map_cons, enumD, ih (k + 1), List.length_cons, List.range_succ_eq_map, List.map_cons, List.map_map]
    congr 1
    refine List.map_congr_left fun i _ => ?_
    simp only [Function.comp_apply, List.getElem?_cons_succ]
    rw [show k + 1 + i = k + (i + 1) by omega]
theorem an_step {M : List PyData → Rs PyData} {g : List Nat → List (List Nat)} {l : List Nat} (hne : l ≠ []) (h3 : l.length ≤ 3) (hM : ∀ i, i < l.length → M [sD (less l i)] = .ok (.list ((g (less l i)).map sD)) ∧ (g (less l i)).length ≤ 10 ∧ ∀ o ∈ g (less l i), o.length ≤ 10) :
    outD (fAN M (startE 5 [sD l])) = .ok (.list ((anL g l (List.range l.length)).map sD)) := by
  obtain ⟨y2, y3, y4, lp⟩ := an_loop h3 hM (List.range l.length) [] none none none (fun i hi => List.mem_range.mp hi) (by simp; omega)
  have en := enumD_signs l 0
  simp only [Nat.zero_add] at en
  rw [← en] at lp
  have ne : ¬ l = [] := hne
  have en2 : iEnS (aCons (eVar 0) aNil) [some (.fz (sD l)), some (.fz (.list [])), none, none, none] = .ok (enumD 0 (l.map fun c => sD [c])) := by simp [iEnS]
  generalize enumD 0 (l.map fun c => sD [c]) = ed at lp en2
  simp only [List.map_nil, List.nil_append, anBody] at lp
  have e0 : (Str.ofString "") = S [] := S_nil
  simp [fAN, startE, e0, ne, en2, lp]
theorem an_nil {M : List PyData → Rs PyData} : outD (fAN M (startE 5 [sD []])) = .ok (.list [sD []]) := by
  have e0 : (Str.ofString "") = S [] := S_nil
  have z1 : 1 ≤ sizeLine := size1 (by omega)
  simp [fAN, startE, e0, z1]
theorem an_one {M : List PyData → Rs PyData} (hM : M [sD []] = .ok (.list [sD []])) (c : Nat) : outD (fAN M (startE 5 [sD [c]])) = .ok (.list [sD [c]]) := by
  refine (an_step (g := fun _ => [[]]) (l := [c]) (by simp) (by simp) fun i hi => ?_).trans rfl
  have : i = 0 := by simpa using hi
  subst this
  exact ⟨hM, by simp, by simp⟩
theorem an_two {M : List PyData → Rs PyData} (hM : ∀ c, M [sD [c]] = .ok (.list [sD [c]])) (a b : Nat) : outD (fAN M (startE 5 [sD [a, b]])) = .ok (.list [sD [a, b], sD [b, a]]) := by
  refine (an_step (g := fun l => [l]) (l := [a, b]) (by simp) (by simp) fun i hi => ?_).trans rfl
  have : i = 0 ∨ i = 1 := by simp at hi; omega
  rcases this with rfl | rfl
  · exact ⟨hM b, by simp, by simp [less]⟩
  · exact ⟨hM a, by simp, by simp [less]⟩
def sw2 : List Nat → List (List Nat)
  | [x, y] => [[x, y], [y, x]]
  | _ => []
theorem an_three {M : List PyData → Rs PyData} (hM : ∀ a b, M [sD [a, b]] = .ok (.list [sD [a, b], sD [b, a]])) (a b c : Nat) : outD (fAN M (startE 5 [sD [a, b, c]])) = .ok (.list [sD [a, b, c], sD [a, c, b], sD [b, a, c], sD [b, c, a], sD [c, a, b], sD [c, b, a]]) := by
  refine (an_step (g := sw2) (l := [a, b, c]) (by simp) (by simp) fun i hi => ?_).trans rfl
  have : i = 0 ∨ i = 1 ∨ i = 2 := by simp at hi; omega
  rcases this with rfl | rfl | rfl
  · exact ⟨hM b c, by simp [sw2, less], by simp [sw2, less]⟩
  · exact ⟨hM a c, by simp [sw2, less], by simp [sw2, less]⟩
  · exact ⟨hM a b, by simp [sw2, less], by simp [sw2, less]⟩
theorem M_lan {n : Nat} (h1 : 1 ≤ n) (h3 : n ≤ 3) : M__law_all_names [sD ([97, 98, 99].take n)] = .ok (.list ((ordsN n).map fun g => sD (pOf g))) := by
  have n1 : M__law_all_names__1 [sD []] = .ok (.list [sD []]) := an_nil (M := M__law_all_names__0)
  have n2 : M__law_all_names__2 [sD []] = .ok (.list [sD []]) := an_nil (M := M__law_all_names__1)
  have n3 : M__law_all_names__3 [sD []] = .ok (.list [sD []]) := an_nil (M := M__law_all_names__2)
  have o2 : ∀ c, M__law_all_names__2 [sD [c]] = .ok (.list [sD [c]]) := fun c => an_one n1 c
  have o3 : ∀ c, M__law_all_names__3 [sD [c]] = .ok (.list [sD [c]]) := fun c => an_one n2 c
  have t3 : ∀ a b, M__law_all_names__3 [sD [a, b]] = .ok (.list [sD [a, b], sD [b, a]]) := fun a b => an_two o2 a b
  have : n = 1 ∨ n = 2 ∨ n = 3 := by omega
  rcases this with rfl | rfl | rfl
  · exact an_one n3 97
  · exact an_two o3 97 98
  · exact an_three t3 97 98 99
theorem M_some_names {n : Nat} (h1 : 1 ≤ n) (h3 : n ≤ 3) (ns : List Int) (at_ : Nat) : ∃ gs ∈ ordsN n, M__law_some_names [nsD ns, .int at_, .int n] = .ok (sD (pOf gs)) := by
  have la := M_lan h1 h3
  have ca := cut_abc h3
  have hc := M_cell ns at_
  have hl : 0 < (ordsN n).length := by
    have : n = 1 ∨ n = 2 ∨ n = 3 := by omega
    rcases this with rfl | rfl | rfl <;> decide
  generalize ordsN n = os at la hl
  have lp : (0 : Int) < (os.length : Int) := by omega
  obtain ⟨k, hk⟩ : ∃ k : Nat, cell ns at_ % (os.length : Int) = k := ⟨(cell ns at_ % (os.length : Int)).toNat, by have := md_nn (cell ns at_) lp; omega⟩
  have kl : k < os.length := by have := md_lt (cell ns at_) lp; omega
  have ga : atI (os.map fun g => sD (pOf g)) (k : Int) = some (sD (pOf os[k])) := atI_nat (by rw [List.getElem?_map, List.getElem?_eq_getElem kl]; rfl)
  exact ⟨os[k], List.getElem_mem kl, by simp [M__law_some_names, f__law_some_names, startE, ca, la, hc, hl, hk, ga]⟩
/-! ### all_names -/
def alBody : DS := (sSeq (sOwn 3 (nLst (aNil))) (sSeq (sFor (iSeq (eVar 1)) (gN 4) (sExt 3 (eFz (nLc [5] (iR1 (aCons (e2 dAdd (eB dLen (aCons (eVar 4) (aNil))) (eC (.int 1))) (aNil))) (gN 5) (tTrue) (e2 dAdd (e2 dAdd (eCut (eVar 4) (oNone) (oSome (eVar 5))) (eVar 2)) (eCut (eVar 4) (oSome (eVar 5)) (oNone))))))) (sFz 3 (sAsg 1 (eVar 3)))))
def insL (c : Nat) (l : List Nat) : List (List Nat) := (List.range (l.length + 1)).map fun i => l.take i ++ [c] ++ l.drop i
def alIn : DS := (sExt 3 (eFz (nLc [5] (iR1 (aCons (e2 dAdd (eB dLen (aCons (eVar 4) (aNil))) (eC (.int 1))) (aNil))) (gN 5) (tTrue) (e2 dAdd (e2 dAdd (eCut (eVar 4) (oNone) (oSome (eVar 5))) (eVar 2)) (eCut (eVar 4) (oSome (eVar 5)) (oNone))))))
theorem alIn_loop (x0 x1 : Option LV) (c : Nat) : ∀ (os acc : List (List Nat)) (x4 x5 : Option LV), (∀ o ∈ os, o.length ≤ 10) → acc.length + 11 * os.length ≤ 1000 →
    ∃ y4 y5, forL (gN 4) alIn (os.map sD) [x0, x1, some (.fz (sD [c])), some (.own (acc.map sD)), x4, x5] = .nx [x0, x1, some (.fz (sD [c])), some (.own ((acc ++ os.flatMap (insL c)).map sD)), y4, y5]
  | [], acc, x4, x5, _, _ => ⟨x4, x5, by simp [forL]⟩
  | o :: os, acc, x4, x5, ho, hl => by
    simp only [List.length_cons] at hl
    have h10 := ho o List.mem_cons_self
    obtain ⟨y4, y5, ih⟩ := alIn_loop x0 x1 c os (acc ++ insL c o) (some (.fz (sD o))) x5 (fun p hp => ho p (List.mem_cons_of_mem _ hp)) (by simp [insL]; omega)
    refine ⟨y4, y5, ?_⟩
    rw [List.flatMap_cons, ← List.append_assoc, ← ih, List.map_cons]
    have hr : inR ((o.length : Int) + 1) = true := inR_of (by omega) (by omega)
    have ht : ((o.length : Int) + 1).toNat = o.length + 1 := by omega
    have z1 : o.length + 1 ≤ sizeLine := size1 (by omega)
    have z2 : acc.length + (o.length + 1) ≤ sizeLine := size1 (by omega)
    have lc : lcL (gN 5) tTrue (e2 dAdd (e2 dAdd (eCut (eVar 4) (oNone) (oSome (eVar 5))) (eVar 2)) (eCut (eVar 4) (oSome (eVar 5)) (oNone))) [x0, x1, some (.fz (sD [c])), some (.own (acc.map sD)), some (.fz (sD o)), none] (rangeD 0 (o.length + 1)) = .ok ((insL c o).map sD) := by
      rw [rangeD_eq]
      unfold insL
      rw [List.map_map]
      refine lcL_all _ _ _ fun i hi => ?_
      have hi := List.mem_range.mp hi
      simp only [Int.zero_add]
      have c1 := cutS_to o i
      have c2 := cutS_from o i
      have w1 : (o.take i).length + 1 ≤ sizeLine := size1 (by rw [List.length_take]; omega)
      have w2 : (o.take i).length + 1 + (o.drop i).length ≤ sizeLine := size1 (by rw [List.length_take, List.length_drop]; omega)
      simp only [List.length_take, List.length_drop] at w1 w2
      simp [c1, c2, w1, w2]
    refine forL_step (ρ1 := [x0, x1, some (.fz (sD [c])), some (.own (acc.map sD)), some (.fz (sD o)), x5]) rfl ?_
    have il : (insL c o).length = o.length + 1 := by simp [insL]
    generalize insL c o = ii at lc il
    have z3 : acc.length + ii.length ≤ sizeLine := by rw [il]; exact z2
    simp [alIn, sExt, hr, ht, rangeD_len, z1, lc, z3]
theorem al_step (x0 : Option LV) (c : Nat) {os : List (List Nat)} (ho : ∀ o ∈ os, o.length ≤ 10) (hl : os.length ≤ 50) (x3 x4 x5 : Option LV) :
    ∃ y3 y4 y5, alBody [x0, some (.fz (.list (os.map sD))), some (.fz (sD [c])), x3, x4, x5] = .nx [x0, some (.fz (.list ((os.flatMap (insL c)).map sD))), some (.fz (sD [c])), y3, y4, y5] := by
  obtain ⟨y4, y5, lp⟩ := alIn_loop x0 (some (.fz (.list (os.map sD)))) c os [] x4 x5 ho (by simp; omega)
  simp only [alIn, List.map_nil, List.nil_append] at lp
  generalize os.flatMap (insL c) = res at lp
  exact ⟨some (.fz (.list (res.map sD))), y4, y5, by simp [alBody, lp]⟩
theorem sortN_is {a b : List (List Nat)} (hp : a.Perm b) (hs : b.Pairwise fun x y => leN x y = true) : sortN a = b := by
  rw [sortN_perm hp]; exact List.mergeSort_of_pairwise hs
theorem M_all_names_eq {n : Nat} (h1 : 1 ≤ n) (h3 : n ≤ 3) : M_all_names [.int n] = .ok (.list ((ordsN n).map fun g => sD (pOf g))) := by
  have ca := cut_abc h3
  have z1 : 1 ≤ sizeLine := size1 (by omega)
  have e0 : (Str.ofString "") = S [] := S_nil
  have fin : ∀ (os : List (List Nat)), os.length < 64 → ∀ (y2 y3 y4 y5 : Option LV), forL (gN 2) alBody (([97, 98, 99].take n).map fun c => sD [c]) [some (.fz (.int n)), some (.fz (.list [sD []])), none, none, none, none] = .nx [some (.fz (.int n)), some (.fz (.list (os.map sD))), y2, y3, y4, y5] → sortN os = (ordsN n).map pOf → M_all_names [.int n] = .ok (.list ((ordsN n).map fun g => sD (pOf g))) := by
    intro os ol y2 y3 y4 y5 lp hs
    have vs := v_sorted os ol
    rw [hs, List.map_map] at vs
    have vs : dSorted [.list (os.map sD)] = some ((ordsN n).map fun g => sD (pOf g)) := vs
    generalize (ordsN n).map (fun g => sD (pOf g)) = res at vs
    simp only [alBody] at lp
    generalize [97, 98, 99].take n = ls at ca lp
    simp [M_all_names, f_all_names, startE, e0, z1, ca, lp, vs]
  have : n = 1 ∨ n = 2 ∨ n = 3 := by omega
  rcases this with rfl | rfl | rfl
  · obtain ⟨a3, a4, a5, s1⟩ := al_step (some (.fz (.int (1 : Nat)))) 97 (os := [[]]) (by simp) (by simp) none none none
    refine fin [[97]] (by simp) (some (.fz (sD [97]))) a3 a4 a5 ?_ (sortN_is (by decide) (by decide))
    show forL (gN 2) alBody [sD [97]] _ = _
    rw [forL_step rfl s1]
    rfl
  · obtain ⟨a3, a4, a5, s1⟩ := al_step (some (.fz (.int (2 : Nat)))) 97 (os := [[]]) (by simp) (by simp) none none none
    obtain ⟨b3, b4, b5, s2⟩ := al_step (some (.fz (.int (2 : Nat)))) 98 (os := [[97]]) (by simp) (by simp) a3 a4 a5
    refine fin [[98, 97], [97, 98]] (by simp) (some (.fz (sD [98]))) b3 b4 b5 ?_ (sortN_is (by decide) (by decide))
    show forL (gN 2) alBody [sD [97], sD [98]] _ = _
    rw [forL_step rfl s1]
    refine (forL_step (ρ1 := [some (.fz (.int (2 : Nat))), some (.fz (.list ([[97]].map sD))), some (.fz (sD [98])), a3, a4, a5]) rfl s2).trans ?_
    rfl
  · obtain ⟨a3, a4, a5, s1⟩ := al_step (some (.fz (.int (3 : Nat)))) 97 (os := [[]]) (by simp) (by simp) none none none
    obtain ⟨b3, b4, b5, s2⟩ := al_step (some (.fz (.int (3 : Nat)))) 98 (os := [[97]]) (by simp) (by simp) a3 a4 a5
    obtain ⟨c3, c4, c5, s3⟩ := al_step (some (.fz (.int (3 : Nat)))) 99 (os := [[98, 97], [97, 98]]) (by simp) (by simp) b3 b4 b5
    refine fin [[99, 98, 97], [98, 99, 97], [98, 97, 99], [99, 97, 98], [97, 99, 98], [97, 98, 99]] (by simp) (some (.fz (sD [99]))) c3 c4 c5 ?_ (sortN_is (by decide) (by decide))
    show forL (gN 2) alBody [sD [97], sD [98], sD [99]] _ = _
    rw [forL_step rfl s1]
    refine (forL_step (ρ1 := [some (.fz (.int (3 : Nat))), some (.fz (.list ([[97]].map sD))), some (.fz (sD [98])), a3, a4, a5]) rfl s2).trans ?_
    refine (forL_step (ρ1 := [some (.fz (.int (3 : Nat))), some (.fz (.list ([[98, 97], [97, 98]].map sD))), some (.fz (sD [99])), b3, b4, b5]) rfl s3).trans ?_
    rfl
theorem M_look_names_ok {r : Ru} (ok : r.Ok) {gs : List Nat} (h : gs ∈ ordsN r.ws.length) : M_look_names [rD r, sD (pOf gs)] = .ok .none := by
  have n1 := ok.n1
  have n3 := ok.n3
  have od := ords_ord n1 n3 h
  rw [M_look_names_sorted ok (by rw [pOf_len od]; omega), if_pos]
  refine sort_one ?_ (lets_rise _)
  unfold lets
  generalize r.ws.length = n at *
  have : n = 1 ∨ n = 2 ∨ n = 3 := by omega
  rcases this with rfl | rfl | rfl
  all_goals
    simp only [ordsN, List.mem_cons, List.not_mem_nil, or_false] at h
  · subst h; decide
  · rcases h with rfl | rfl <;> decide
  · rcases h with rfl | rfl | rfl | rfl | rfl | rfl <;> decide
theorem M_renamed_eq {r : Ru} (ok : r.Ok) {gs : List Nat} (h : gs ∈ ordsN r.ws.length) : M_renamed [rD r, sD (pOf gs)] = .ok (rD (renR r gs)) := by
  have od := ords_ord ok.n1 ok.n3 h
  simp [M_renamed, f_renamed, startE, M_look_ok ok, M_look_names_ok ok h, M_named_eq ok od]
theorem M_renamed_row_eq {r : Ru} (ok : r.Ok) {l : List Nat} (hl : rowOk r l) {gs : List Nat} (h : gs ∈ ordsN r.ws.length) : M_renamed_row [rD r, sD l, sD (pOf gs)] = .ok (sD (l.map (ledF gs))) := by
  have od := ords_ord ok.n1 ok.n3 h
  have h2 := hl.2
  simp [M_renamed_row, f_renamed_row, startE, M_look_row_ok ok hl, M_look_names_ok ok h, M_named_word_eq ok.n3 od hl.1 (by omega)]
end DL
namespace DL
open PySem PySem.Spec L2
/-! ### texts put together with something between -/
def jnL (sep : List Nat) : List (List Nat) → List Nat
  | [] => []
  | x :: r => x ++ r.flatMap fun y => sep ++ y
theorem join_jnL (sep : List Nat) : ∀ ls : List (List Nat), Str.join (S sep) (ls.map S) = S (jnL sep ls)
  | [] => by apply str_ext; rfl
  | [l] => by simp [Str.join, jnL]
  | l :: m :: r => by
    have ih := join_jnL sep (m :: r)
    show S l ++ (S sep) ++ Str.join (S sep) ((m :: r).map S) = _
    rw [ih]
    simp [jnL]
theorem jnL_len (sep : List Nat) : ∀ ls : List (List Nat), (jnL sep ls).length ≤ (ls.map List.length).sum + ls.length * sep.length
  | [] => by simp [jnL]
  | x :: r => by
    have key : ∀ r : List (List Nat), (r.flatMap fun y => sep ++ y).length = (r.map List.length).sum + r.length * sep.length := by
      intro r
      induction r with
      | nil => simp
      | cons y r ih => rw [List.flatMap_cons, List.length_append, ih, List.length_append, List.map_cons, List.sum_cons, List.length_cons, Nat.succ_mul]; omega
    rw [jnL, List.length_append, key, List.map_cons, List.sum_cons, List.length_cons, Nat.succ_mul]
    omega
theorem v_joinS (sep : List Nat) (ls : List (List Nat)) (h : (ls.map List.length).sum + ls.length * sep.length ≤ sizeLine) : dJoin (sD sep) [.list (ls.map sD)] = some (sD (jnL sep ls)) := by
  have e : ls.map sD = (ls.map S).map PyData.str := by simp
  have e1 : ((ls.map S).map (·.length)) = ls.map List.length := by simp
  show ((strsOf (ls.map sD)).bind fun ys => if (ys.map (·.length)).sum + ys.length * (S sep).length ≤ sizeLine then some (PyData.str (Str.join (S sep) ys)) else none) = _
  rw [e, strsOf_map, Option.bind_some, e1, List.length_map, S_len, if_pos h, join_jnL]
/-! ### rules written -/
def itemT (c : Nat) (w : Option (List Nat)) : List Nat := c :: 58 :: w.getD [45]
def itemsT : List Nat → List (Option (List Nat)) → List (List Nat)
  | c :: cs, w :: ws => itemT c w :: itemsT cs ws
  | _, _ => []
def shownT (r : Ru) : List Nat := jnL [32] ([48 + r.cut] :: itemsT [97, 98, 99] r.ws)
theorem str_cut {r : Ru} (ok : r.Ok) : dStr [.int (r.cut : Nat)] = some (sD [48 + r.cut]) := by
  have h1 := ok.c1
  have h3 := ok.c3
  generalize r.cut = c at *
  have : c = 1 ∨ c = 2 ∨ c = 3 := by omega
  have key : ∀ (i : Int) (l : List Nat), toString i = (toString i) → i.natAbs.log2 < 1920 → (Str.ofString (toString i)) = S l → SOk (S l) → dStr [.int i] = some (sD l) := by
    intro i l _ hb hs so
    unfold dStr
    simp only
    have ss : sokB (Str.ofString (toString i)) = true := by rw [hs]; unfold sokB; rw [decide_eq_true so.len, so.ok]; rfl
    rw [if_pos ⟨hb, ss⟩, hs]
  rcases this with rfl | rfl | rfl
  · exact key 1 [49] rfl (by decide) (by decide +kernel) (SOk.dec (by decide +kernel))
  · exact key 2 [50] rfl (by decide) (by decide +kernel) (SOk.dec (by decide +kernel))
  · exact key 3 [51] rfl (by decide) (by decide +kernel) (SOk.dec (by decide +kernel))
theorem S_colon : (Str.ofString ":") = S [58] := by decide +kernel
theorem S_dash : (Str.ofString "-") = S [45] := by decide +kernel
theorem S_blank : (Str.ofString " ") = S [32] := by decide +kernel
def shBody : DS := (sApp 1 (e2 dAdd (e2 dAdd (eVar 2) (eC (.str ":"))) (eIf (t2 dIs (eVar 3) (eC .none)) (eC (.str "-")) (eVar 3))))
theorem sh_loop (x0 : Option LV) : ∀ (cs : List Nat) (ws : List (Option (List Nat))) (acc : List (List Nat)) (x2 x3 : Option LV), (∀ x, some x ∈ ws → x.length ≤ 100) → acc.length + cs.length ≤ 1000 →
    ∃ y2 y3, forL (gN2 2 3) shBody (zipD (cs.map fun c => sD [c]) (ws.map wD)) [x0, some (.own (acc.map sD)), x2, x3] = .nx [x0, some (.own ((acc ++ itemsT cs ws).map sD)), y2, y3]
  | [], ws, acc, x2, x3, _, _ => ⟨x2, x3, by simp [zipD, itemsT, forL]⟩
  | c :: cs, [], acc, x2, x3, _, _ => ⟨x2, x3, by simp [zipD, itemsT, forL]⟩
  | c :: cs, w :: ws, acc, x2, x3, hw, hl => by
    simp only [List.length_cons] at hl
    obtain ⟨y2, y3, ih⟩ := sh_loop x0 cs ws (acc ++ [itemT c w]) (some (.fz (sD [c]))) (some (.fz (wD w))) (fun x hx => hw x (List.mem_cons_of_mem _ hx)) (by simp; omega)
    refine ⟨y2, y3, ?_⟩
    have e1 : acc ++ itemsT (c :: cs) (w :: ws) = (acc ++ [itemT c w]) ++ itemsT cs ws := by simp [itemsT]
    rw [e1, ← ih]
    have z1 : acc.length < sizeLine := by rw [sizeLine_eq]; omega
    have z2 : 1 + 1 ≤ sizeLine := size1 (by omega)
    refine forL_step (ρ1 := [x0, some (.own (acc.map sD)), some (.fz (sD [c])), some (.fz (wD w))]) rfl ?_
    cases w with
    | none =>
      have z3 : 2 + 1 ≤ sizeLine := size1 (by omega)
      simp [shBody, wD, S_colon, S_dash, z1, z2, z3, itemT]
    | some x =>
      have := hw x List.mem_cons_self
      have z3 : 2 + x.length ≤ sizeLine := size1 (by omega)
      simp [shBody, wD, S_colon, S_dash, z1, z2, z3, itemT]
theorem itemsT_len : ∀ (cs : List Nat) (ws : List (Option (List Nat))), (itemsT cs ws).length = min cs.length ws.length
  | [], ws => by simp [itemsT]
  | c :: cs, [] => by simp [itemsT]
  | c :: cs, w :: ws => by simp [itemsT, itemsT_len cs ws]
theorem itemsT_sum {ws : List (Option (List Nat))} (hw : ∀ x, some x ∈ ws → x.length ≤ 100) : ∀ (cs : List Nat), ((itemsT cs ws).map List.length).sum ≤ 102 * ws.length := by
  induction ws with
  | nil => intro cs; cases cs <;> simp [itemsT]
  | cons w ws ih =>
    intro cs
    cases cs with
    | nil => simp [itemsT]
    | cons c cs =>
      have h1 := ih (fun x hx => hw x (List.mem_cons_of_mem _ hx)) cs
      have h2 : (itemT c w).length ≤ 102 := by
        cases w with
        | none => simp [itemT]
        | some x => have := hw x List.mem_cons_self; simp [itemT]; omega
      simp only [itemsT, List.map_cons, List.sum_cons, List.length_cons]
      omega
theorem M_shown_eq {r : Ru} (ok : r.Ok) : M_shown [rD r] = .ok (sD (shownT r)) := by
  have n3 := ok.n3
  have hw : ∀ x, some x ∈ r.ws → x.length ≤ 100 := fun x hx => by have := (ok.w x hx).1; omega
  obtain ⟨y2, y3, lp⟩ := sh_loop (some (.fz (rD r))) [97, 98, 99] r.ws [[48 + r.cut]] none none hw (by simp)
  have sc := str_cut ok
  have z1 : 1 ≤ sizeLine := size1 (by omega)
  have sm := itemsT_sum hw [97, 98, 99]
  have sl := itemsT_len [97, 98, 99] r.ws
  have vj := v_joinS [32] ([48 + r.cut] :: itemsT [97, 98, 99] r.ws) (size1 (by simp [sl]; omega))
  unfold shownT
  have ez : iZ2 (aCons (eC (.str (Str.ofString "abc"))) (aCons (e2 dIx (eVar 0) (eC (.int 1))) (aNil))) [some (.fz (rD r)), some (.own [sD [48 + r.cut]]), none, none] = .ok (zipD ([97, 98, 99].map fun c => sD [c]) (r.ws.map wD)) := by
    simp [iZ2, seqD, S_abc]
  simp only [List.map_cons, List.map_nil, List.cons_append, List.nil_append] at lp vj
  simp only [List.map_cons, List.map_nil] at ez
  generalize zipD [sD [97], sD [98], sD [99]] (r.ws.map wD) = zz at ez lp
  simp only [shBody] at lp
  simp [M_shown, f_shown, startE, M_look_ok ok, sc, z1, ez, lp, S_blank, vj]
theorem eqv_wD (a b : Option (List Nat)) : PyData.eqv (wD a) (wD b) = decide (a = b) := by
  cases a with
  | none => cases b <;> rfl
  | some x =>
    cases b with
    | none => rfl
    | some y => simp [wD, PyData.eqv, Bool.beq_eq_decide_eq]
theorem eqvAll_wD : ∀ a b : List (Option (List Nat)), PyData.eqvAll (a.map wD) (b.map wD) = decide (a = b)
  | [], [] => rfl
  | [], _ :: _ => rfl
  | _ :: _, [] => rfl
  | x :: a, y :: b => by
    show (PyData.eqv (wD x) (wD y) && PyData.eqvAll (a.map wD) (b.map wD)) = _
    rw [eqv_wD, eqvAll_wD a b]
    by_cases h : x = y <;> by_cases h2 : a = b <;> simp [h, h2]
theorem depth_rD (r : Ru) : (rD r).depth ≤ 64 := by
  have h1 : PyData.depthAll (r.ws.map wD) ≤ 0 := depthAll_le fun d hd => by
    obtain ⟨l, _, rfl⟩ := List.mem_map.mp hd
    cases l <;> exact Nat.le_refl 0
  show max 0 (max (PyData.depthAll (r.ws.map wD) + 1) 0) + 1 ≤ 64
  omega
theorem rD_eq (r o : Ru) : dEq (rD r) (rD o) = some (.bool (decide (r.cut = o.cut ∧ r.ws = o.ws))) := by
  unfold dEq
  rw [if_pos (by simp [depth_rD])]
  have e : PyData.eqv (rD r) (rD o) = (PyData.eqv (.int r.cut) (.int o.cut) && (PyData.eqvAll (r.ws.map wD) (o.ws.map wD) && true)) := rfl
  rw [e, eqvAll_wD]
  obtain ⟨rc, rw'⟩ := r
  obtain ⟨oc, ow⟩ := o
  simp only [PyData.eqv, Bool.and_true]
  by_cases h : rc = oc
  · subst h
    by_cases h2 : rw' = ow
    · subst h2; simp
    · simp [h2]
  · have h' : ¬ (rc : Int) = oc := by omega
    simp [h, h']
theorem leS_Sx (a b : List Nat) : leS (S a) (S b) = leN a b := by simp [leS, leN]
def minX (ls : List (List Nat)) : List Nat := (sortN ls).headD []
theorem minX_spec {ls : List (List Nat)} (h : ls ≠ []) : minX ls ∈ ls ∧ ∀ y ∈ ls, leN (minX ls) y = true := by
  unfold minX
  have hp : (sortN ls).Perm ls := List.mergeSort_perm ls leN
  have pw : (sortN ls).Pairwise fun a b => leN a b = true := List.pairwise_mergeSort (fun a b c => leN_trans a b c) leN_total ls
  cases q : sortN ls with
  | nil => rw [q] at hp; exact absurd hp.symm.eq_nil h
  | cons a r =>
    rw [q] at hp pw
    refine ⟨hp.mem_iff.mp List.mem_cons_self, fun y hy => ?_⟩
    rcases List.mem_cons.mp (hp.mem_iff.mpr hy) with rfl | hy
    · have := leN_total y y
      simpa using this
    · exact (List.pairwise_cons.mp pw).1 y hy
theorem v_minX {ls : List (List Nat)} (h : ls ≠ []) : dMin [.list (ls.map sD)] = some (sD (minX ls)) := by
  obtain ⟨h1, h2⟩ := minX_spec h
  have e : ls.map sD = (ls.map S).map PyData.str := by simp
  show (match strsOf (ls.map sD) with | some xs => (minS xs).map PyData.str | none => (intsOf (ls.map sD)).bind fun ns => (minI ns).map PyData.int) = _
  rw [e, strsOf_map]
  simp only
  rw [minS_unique (m := S (minX ls)) (List.mem_map_of_mem h1) (fun y hy => by
    obtain ⟨z, hz, rfl⟩ := List.mem_map.mp hy
    rw [leS_Sx]; exact h2 z hz)]
  rfl
def leastT (r : Ru) : List Nat := minX ((ordsN r.ws.length).map fun gs => shownT (renR r gs))
theorem ords_ne {n : Nat} (h1 : 1 ≤ n) (h3 : n ≤ 3) : ordsN n ≠ [] ∧ (ordsN n).length ≤ 6 := by
  have : n = 1 ∨ n = 2 ∨ n = 3 := by omega
  rcases this with rfl | rfl | rfl <;> exact ⟨by simp [ordsN], by simp [ordsN]⟩
theorem M_least_text_eq {r : Ru} (ok : r.Ok) : M_least_text [rD r] = .ok (sD (leastT r)) := by
  have an := M_all_names_eq ok.n1 ok.n3
  obtain ⟨o1, o2⟩ := ords_ne ok.n1 ok.n3
  have z : (ordsN r.ws.length).length ≤ sizeLine := size1 (by omega)
  have lc : lcL (gN 1) tTrue (eCall 1 M_shown (aCons (eCall 2 M_named (aCons (eVar 0) (aCons (eVar 1) (aNil)))) (aNil))) [some (.fz (rD r)), none] ((ordsN r.ws.length).map fun g => sD (pOf g)) = .ok (((ordsN r.ws.length).map fun gs => shownT (renR r gs)).map sD) := by
    rw [List.map_map]
    refine lcL_all _ _ _ fun gs hg => ?_
    have od := ords_ord ok.n1 ok.n3 hg
    have sh := M_shown_eq (renR_ok ok od)
    simp [M_named_eq ok od, sh]
  have vm := v_minX (ls := (ordsN r.ws.length).map fun gs => shownT (renR r gs)) (by simpa using o1)
  unfold leastT
  generalize ((ordsN r.ws.length).map fun gs => shownT (renR r gs)) = ts at lc vm ⊢
  have zz : ((ordsN r.ws.length).map fun g => sD (pOf g)).length ≤ sizeLine := by rw [List.length_map]; exact z
  generalize (ordsN r.ws.length).map (fun g => sD (pOf g)) = os at an lc zz
  simp [M_least_text, f_least_text, startE, M_look_ok ok, an, zz, lc, vm]
theorem M_same_kind_eq {r o : Ru} (ok : r.Ok) (oo : o.Ok) : M_same_kind [rD r, rD o] = .ok (.bool ((ordsN r.ws.length).any fun gs => decide ((renR r gs).cut = o.cut ∧ (renR r gs).ws = o.ws))) := by
  have an := M_all_names_eq ok.n1 ok.n3
  obtain ⟨o1, o2⟩ := ords_ne ok.n1 ok.n3
  have z : (ordsN r.ws.length).length ≤ sizeLine := size1 (by omega)
  have lc : lcL (gN 2) (t2 dEq (eCall 2 M_named (aCons (eVar 0) (aCons (eVar 2) (aNil)))) (eVar 1)) (eVar 2) [some (.fz (rD r)), some (.fz (rD o)), none] ((ordsN r.ws.length).map fun g => sD (pOf g)) = .ok (((ordsN r.ws.length).filter fun gs => decide ((renR r gs).cut = o.cut ∧ (renR r gs).ws = o.ws)).map fun g => sD (pOf g)) := by
    refine lcL_map _ _ _ _ fun gs hg => ⟨?_, fun _ => by simp⟩
    have od := ords_ord ok.n1 ok.n3 hg
    have re := rD_eq (renR r gs) o
    generalize decide ((renR r gs).cut = o.cut ∧ (renR r gs).ws = o.ws) = b at re
    simp [M_named_eq ok od, re]
  have zz : ((ordsN r.ws.length).map fun g => sD (pOf g)).length ≤ sizeLine := by rw [List.length_map]; exact z
  have eb : (!((((ordsN r.ws.length).filter fun gs => decide ((renR r gs).cut = o.cut ∧ (renR r gs).ws = o.ws)).map fun g => sD (pOf g)).isEmpty)) = (ordsN r.ws.length).any fun gs => decide ((renR r gs).cut = o.cut ∧ (renR r gs).ws = o.ws) := by
    rw [List.isEmpty_map, Bool.eq_iff_iff, Bool.not_eq_true', List.isEmpty_eq_false_iff, List.any_eq_true]
    constructor
    · intro h
      obtain ⟨x, hx⟩ := List.exists_mem_of_ne_nil _ h
      obtain ⟨m1, m2⟩ := List.mem_filter.mp hx
      exact ⟨x, m1, m2⟩
    · rintro ⟨x, m1, m2⟩ z
      have : x ∈ (ordsN r.ws.length).filter fun gs => decide ((renR r gs).cut = o.cut ∧ (renR r gs).ws = o.ws) := List.mem_filter.mpr ⟨m1, m2⟩
      rw [z] at this; cases this
  rw [← eb]
  generalize (((ordsN r.ws.length).filter fun gs => decide ((renR r gs).cut = o.cut ∧ (renR r gs).ws = o.ws)).map fun g => sD (pOf g)) = fl at lc
  generalize (ordsN r.ws.length).map (fun g => sD (pOf g)) = os at an lc zz
  simp [M_same_kind, f_same_kind, startE, M_look_ok ok, M_look_ok oo, an, zz, lc, dBoolL]
end DL
namespace DL
open PySem PySem.Spec L2
theorem cnt_count (c : Nat) : ∀ l : List Nat, PyProof.Rows.cnt c l = (l.count c : Nat)
  | [] => rfl
  | a :: l => by
    rw [PyProof.Rows.cnt_cons, cnt_count c l, List.count_cons]
    by_cases h : a = c
    · simp [h]; omega
    · simp [h]
theorem v_count (l : List Nat) (c : Nat) : dCount (sD l) [sD [c]] = some (.int (l.count c : Nat)) := by
  show some (PyData.int (Txt.count (S l) (S [c]))) = _
  rw [show S [c] = (⟨#[c]⟩ : Str) from rfl, PyProof.Rows.count_cnt, S_cps, cnt_count]
/-! ### rules whose words rise -/
def Rising (r : Ru) : Prop := ∀ c x, wordOf r c = some x → ∀ d ∈ x, c < d
theorem exists_min : ∀ {l : List Nat}, l ≠ [] → ∃ m ∈ l, ∀ x ∈ l, m ≤ x
  | [], h => absurd rfl h
  | [a], _ => ⟨a, by simp, by simp⟩
  | a :: b :: l, _ => by
    obtain ⟨m, h1, h2⟩ := exists_min (l := b :: l) (by simp)
    by_cases h : a ≤ m
    · exact ⟨a, by simp, fun x hx => by
        rcases List.mem_cons.mp hx with rfl | hx
        · exact Nat.le_refl _
        · exact Nat.le_trans h (h2 x hx)⟩
    · exact ⟨m, by simp [List.mem_cons] at h1 ⊢; exact .inr h1, fun x hx => by
        rcases List.mem_cons.mp hx with rfl | hx
        · omega
        · exact h2 x hx⟩
theorem mem_rp {k : Nat} {p : List Nat} {x : Nat} (hk : 1 ≤ k) (h : x ∈ p) : x ∈ rp k p := by
  unfold rp
  rw [List.mem_flatten]
  exact ⟨p, by simp; omega, h⟩
theorem share_rise {r : Ru} (ok : r.Ok) (hr : Rising r) {p : List Nat} {k : Nat} (h : shareM r p = some k) : k = 0 := by
  obtain ⟨h1, h2, h3, _⟩ := shareM_le ok h
  by_cases hk : k = 0
  · exact hk
  · obtain ⟨m, m1, m2⟩ := exists_min h1
    have hm : m ∈ imageM r p := by rw [← h3]; exact mem_rp (by omega) m1
    obtain ⟨c, hc, hd⟩ := List.mem_flatMap.mp hm
    have hcp := m2 c (stepL_mem hc)
    cases q : wordOf r c with
    | none => rw [q] at hd; simp at hd
    | some x =>
      rw [q] at hd
      have := hr c x q m hd
      omega
theorem part_rise {r : Ru} (ok : r.Ok) (hr : Rising r) {row p : List Nat} {k : Nat} (h : partM r row = some (p, k)) : ¬ 1 < k := by
  obtain ⟨n, _, _, _, hs⟩ := partL_spec h
  have := share_rise ok hr hs
  omega
def fateS (r : Ru) : Nat → List (List Nat) → List Nat → Fate
  | 0, rows, row => .far rows.length row.length
  | f + 1, rows, row => if rows.length ≤ 200 ∧ row.length ≤ 120 then
      if ended r row then .ends rows.length row
      else if row ∈ rows then .round (rows.idxOf row) (rows.length - rows.idxOf row)
      else fateS r f (rows ++ [row]) (next r row)
    else .far rows.length row.length
theorem fateS_eq {r : Ru} (ok : r.Ok) (hr : Rising r) : ∀ (f : Nat) (rows : List (List Nat)) (row : List Nat), fateL r f rows row = fateS r f rows row
  | 0, _, _ => rfl
  | f + 1, rows, row => by
    unfold fateL fateS
    rw [fateS_eq ok hr f]
    cases q : partM r row with
    | none => rfl
    | some pk =>
      obtain ⟨p, k⟩ := pk
      dsimp only
      rw [if_neg (part_rise ok hr q)]
end DL
namespace DL
open PySem PySem.Spec L2
/-! ### a text parted at a sign -/
theorem app_c {c : Nat} : ∀ {a b x y : List Nat}, c ∉ a → c ∉ b → a ++ c :: x = b ++ c :: y → a = b ∧ x = y
  | [], [], _, _, _, _, e => ⟨rfl, (List.cons.inj e).2⟩
  | [], b :: bs, _, _, _, hb, e => absurd (List.cons.inj e).1 fun z => hb (z ▸ List.mem_cons_self)
  | a :: as, [], _, _, ha, _, e => absurd (List.cons.inj e).1 fun z => ha (z ▸ List.mem_cons_self)
  | a :: as, b :: bs, x, y, ha, hb, e => by
    obtain ⟨e1, e2⟩ := List.cons.inj (show a :: (as ++ c :: x) = b :: (bs ++ c :: y) from e)
    obtain ⟨h1, h2⟩ := app_c (fun z => ha (List.mem_cons_of_mem _ z)) (fun z => hb (List.mem_cons_of_mem _ z)) e2
    exact ⟨by rw [e1, h1], h2⟩
theorem jnL_cons2 (c : Nat) (a b : List Nat) (r : List (List Nat)) : jnL [c] (a :: b :: r) = a ++ c :: jnL [c] (b :: r) := by simp [jnL]
theorem jnL_one (sep a : List Nat) : jnL sep [a] = a := by simp [jnL]
theorem jnL_inj {c : Nat} : ∀ {A B : List (List Nat)}, A ≠ [] → B ≠ [] → (∀ p ∈ A, c ∉ p) → (∀ p ∈ B, c ∉ p) → jnL [c] A = jnL [c] B → A = B
  | [], _, h, _, _, _, _ => absurd rfl h
  | _, [], _, h, _, _, _ => absurd rfl h
  | [a], [b], _, _, _, _, e => by rw [jnL_one, jnL_one] at e; rw [e]
  | [a], b :: b2 :: r, _, _, hA, hB, e => by
    rw [jnL_one, jnL_cons2] at e
    exact absurd (show c ∈ a by rw [e]; simp) (hA a List.mem_cons_self)
  | a :: a2 :: r, [b], _, _, hA, hB, e => by
    rw [jnL_one, jnL_cons2] at e
    exact absurd (show c ∈ b by rw [← e]; simp) (hB b List.mem_cons_self)
  | a :: a2 :: r, b :: b2 :: s, _, _, hA, hB, e => by
    rw [jnL_cons2, jnL_cons2] at e
    obtain ⟨h1, h2⟩ := app_c (hA a List.mem_cons_self) (hB b List.mem_cons_self) e
    rw [h1, jnL_inj (A := a2 :: r) (B := b2 :: s) (by simp) (by simp) (fun p hp => hA p (List.mem_cons_of_mem _ hp)) (fun p hp => hB p (List.mem_cons_of_mem _ hp)) h2]
theorem jnL_count (c : Nat) : ∀ {ls : List (List Nat)}, ls ≠ [] → (jnL [c] ls).count c + 1 = (ls.map (List.count c)).sum + ls.length
  | [], h => absurd rfl h
  | [a], _ => by simp [jnL]
  | a :: b :: r, _ => by
    have ih := jnL_count c (ls := b :: r) (by simp)
    rw [jnL_cons2, List.count_append, List.count_cons_self]
    simp only [List.map_cons, List.sum_cons, List.length_cons] at ih ⊢
    omega
theorem S_surj (s : Str) : s = S s.cps.toList := by apply str_ext; simp
theorem map_surj (ps : List Str) : ps = (ps.map fun s => s.cps.toList).map S := by
  rw [List.map_map]
  conv => lhs; rw [← List.map_id ps]
  exact List.map_congr_left fun s _ => S_surj s
theorem sum_zero : ∀ {l : List Nat}, l.sum = 0 → ∀ x ∈ l, x = 0
  | a :: l, h, x, hx => by
    rw [List.sum_cons] at h
    rcases List.mem_cons.mp hx with rfl | hx
    · omega
    · exact sum_zero (by omega) x hx
theorem split_len (l : List Nat) {c : Nat} (hc : c < 256) : (Txt.split (S l) (S [c])).length = l.count c + 1 := by
  have cn : ((Builtin.Str.occurrences (S l) (S [c]) 0 (S l).length ((S l).length + 1)).length : Int) = (l.count c : Nat) := by
    show Txt.count (S l) (S [c]) = _
    rw [show S [c] = (⟨#[c]⟩ : Str) from rfl, PyProof.Rows.count_cnt, S_cps, cnt_count]
  unfold Txt.split
  split
  · rename_i h
    rw [Bool.or_eq_true, decide_eq_true_eq, decide_eq_true_eq] at h
    rcases h with h | h
    · rw [S_len, S_len] at h
      have h : l.length < 1 := h
      have : l = [] := List.length_eq_zero_iff.mp (by omega)
      subst this; rfl
    · exfalso
      have : Builtin.Str.strKind (S [c]) = 1 := by
        unfold Builtin.Str.strKind
        rw [if_pos ?_]
        show (#[c] : Array Nat).all (· < 256) = true
        rw [← Array.all_toList]
        show (decide (c < 256) && true) = true
        rw [decide_eq_true hc]; rfl
      rw [this] at h
      unfold Builtin.Str.strKind at h
      split at h
      · omega
      · split at h <;> omega
  · split
    · rename_i h
      have : (Builtin.Str.occurrences (S l) (S [c]) 0 (S l).length ((S l).length + 1)) = [] := List.isEmpty_iff.mp h
      rw [this] at cn
      simp at cn
      simp; omega
    · rw [length_partsBetween]
      omega
theorem split_parts (l : List Nat) {c : Nat} (hc : c < 256) : ∃ ls : List (List Nat), Txt.split (S l) (S [c]) = ls.map S ∧ jnL [c] ls = l ∧ ls ≠ [] ∧ ls.length = l.count c + 1 ∧ ∀ p ∈ ls, c ∉ p := by
  have hl := split_len l hc
  have hj := StrLaws.join_split (S l) (S [c])
  generalize Txt.split (S l) (S [c]) = ps at hl hj
  have e := map_surj ps
  refine ⟨ps.map fun s => s.cps.toList, e, ?_, ?_, by rw [List.length_map]; exact hl, ?_⟩
  · rw [e, join_jnL] at hj
    simpa using hj
  · intro z
    have := congrArg List.length z
    rw [List.length_map, hl] at this
    simp at this
  · have hne : (ps.map fun s => s.cps.toList) ≠ [] := fun z => by
      have := congrArg List.length z
      rw [List.length_map, hl] at this
      simp at this
    have hj2 : jnL [c] (ps.map fun s => s.cps.toList) = l := by
      rw [e, join_jnL] at hj
      simpa using hj
    have jc := jnL_count c hne
    rw [hj2, List.length_map, hl] at jc
    intro p hp hcp
    have := sum_zero (show ((ps.map fun s => s.cps.toList).map (List.count c)).sum = 0 by omega) (p.count c) (List.mem_map_of_mem hp)
    exact absurd hcp (List.count_eq_zero.mp this)
theorem split_jnL {c : Nat} (hc : c < 256) {ls : List (List Nat)} (hne : ls ≠ []) (hf : ∀ p ∈ ls, c ∉ p) : Txt.split (S (jnL [c] ls)) (S [c]) = ls.map S := by
  obtain ⟨ms, e1, e2, e3, _, e4⟩ := split_parts (jnL [c] ls) hc
  rw [e1, jnL_inj e3 hne e4 hf e2]
theorem v_split {c : Nat} (hc : c < 256) {ls : List (List Nat)} (hne : ls ≠ []) (hf : ∀ p ∈ ls, c ∉ p) (hl : (jnL [c] ls).length ≤ 1000000) (hs : ∀ p ∈ ls, p.length ≤ 100000 ∧ ∀ x ∈ p, x < 1000) : dSplit (sD (jnL [c] ls)) [sD [c]] = some (ls.map sD) := by
  show (if (decide ((S [c]).length ≠ 0) && (decide ((S (jnL [c] ls)).length + 2 ≤ sizeLine) && (Txt.split (S (jnL [c] ls)) (S [c])).all sokB)) = true then some ((Txt.split (S (jnL [c] ls)) (S [c])).map PyData.str) else none) = _
  rw [split_jnL hc hne hf, if_pos]
  · rw [List.map_map]; rfl
  · rw [Bool.and_eq_true, Bool.and_eq_true]
    refine ⟨by simp, decide_eq_true (by rw [S_len]; exact size1 (by omega)), List.all_eq_true.mpr fun y hy => ?_⟩
    obtain ⟨p, hp, rfl⟩ := List.mem_map.mp hy
    obtain ⟨h1, h2⟩ := hs p hp
    unfold sokB
    rw [Bool.and_eq_true]
    refine ⟨decide_eq_true (by rw [S_len]; exact size1 (by omega)), strOk_iff.mpr fun x hx => ?_⟩
    have := h2 x (by simpa using hx)
    omega
end DL
namespace DL
open PySem PySem.Spec L2
noncomputable def f_word_read : DS := sSeq (sIf (t2 dNe (eCut (eVar 1) (oNone) (oSome (eC (.int 2)))) (e2 dAdd (eVar 0) (eC (.str ":")))) (sRaise "BadText") (sNil)) (sSeq (sIf (t2 dEq (eCut (eVar 1) (oSome (eC (.int 2))) (oNone)) (eC (.str "-"))) (sRet (eC .none)) (sNil)) (sRet (eCut (eVar 1) (oSome (eC (.int 2))) (oNone))))
noncomputable def M_word_read : List D → Rs D := fun ds => outD (f_word_read (startE 2 ds))

noncomputable def f_read : DS := sSeq (sIf (tNot (tTru (eIsi "str" (eVar 0)))) (sRaise "BadText") (sNil)) (sSeq (sAsg 1 (eFz (nM "str" dSplit (eVar 0) (aCons (eC (.str " ")) (aNil))))) (sSeq (sIf (tOr (t2 dNotIn (e2 dIx (eVar 1) (eC (.int 0))) (eTup (aCons (eC (.str "1")) (aCons (eC (.str "2")) (aCons (eC (.str "3")) (aNil)))))) (t2 dGt (eB dLen (aCons (eVar 1) (aNil))) (eC (.int 4)))) (sRaise "BadText") (sNil)) (sSeq (sAsg 2 (eTup (aCons (eB dIntS (aCons (e2 dIx (eVar 1) (eC (.int 0))) (aNil))) (aCons (eB dTuple (aCons (eFz (nLcE [3, 4] (iZ2 (aCons (eC (.str "abc")) (aCons (eCut (eVar 1) (oSome (eC (.int 1))) (oNone)) (aNil)))) (gN2 3 4) (eCall 2 M_word_read (aCons (eVar 3) (aCons (eVar 4) (aNil)))))) (aNil))) (aNil))))) (sSeq (sIf (tNot (tTru (eCall 1 M_is_rules (aCons (eVar 2) (aNil))))) (sRaise "BadText") (sNil)) (sRet (eVar 2))))))
noncomputable def M_read : List D → Rs D := fun ds => outD (f_read (startE 5 ds))

end DL
namespace DL
open PySem PySem.Spec L2
noncomputable def f__law_deeds_of : DS := sSeq (sAsg 1 (eTup (aCons (eC (.int 3)) (aCons (eTup (aCons (eC (.str "")) (aCons (eC (.str "a")) (aCons (eC (.str "b")) (aNil))))) (aNil))))) (sSeq (sIf (t2 dEq (eVar 0) (eC (.int 0))) (sRet (eCall 1 M_shown (aCons (eC .none) (aNil)))) (sNil)) (sSeq (sIf (t2 dEq (eVar 0) (eC (.int 1))) (sRet (eCall 2 M_fate (aCons (eVar 1) (aCons (eC (.str "d")) (aNil))))) (sNil)) (sSeq (sIf (t2 dEq (eVar 0) (eC (.int 2))) (sRet (eCall 3 M_after (aCons (eVar 1) (aCons (eC (.str "")) (aCons (eC (.int 201)) (aNil)))))) (sNil)) (sSeq (sIf (t2 dEq (eVar 0) (eC (.int 3))) (sRet (eCall 2 M_image (aCons (eVar 1) (aCons (eC (.str "a")) (aNil))))) (sNil)) (sSeq (sIf (t2 dEq (eVar 0) (eC (.int 4))) (sRet (eCall 2 M_next_row (aCons (eVar 1) (aCons (eC (.str "aa")) (aNil))))) (sNil)) (sRet (eIf (t2 dEq (eVar 0) (eC (.int 5))) (eCall 3 M_leading (aCons (eVar 1) (aCons (eC (.str "")) (aCons (eC (.int 4)) (aNil))))) (eCall 1 M_read (aCons (eC (.str "")) (aNil))))))))))
noncomputable def M__law_deeds_of : List D → Rs D := fun ds => outD (f__law_deeds_of (startE 2 ds))

def ex__law_kinds_of : List (Str × List Str) := [("BadRules", ["BadRules", "CutError", "ValueError"]), ("BadRow", ["BadRow", "CutError", "ValueError"]), ("BadCount", ["BadCount", "CutError", "ValueError"]), ("Ended", ["Ended", "CutError", "ValueError"]), ("BadWord", ["BadWord", "CutError", "ValueError"]), ("TooMany", ["TooMany", "CutError", "ValueError"]), ("BadText", ["BadText", "CutError", "ValueError"])]
noncomputable def f__law_kinds_of : DS := sSeq (sOwn 1 (nLst (aNil))) (sSeq (sTryAs ex__law_kinds_of "CutError" 2 (sExpr (eCall 1 M__law_deeds_of (aCons (eVar 0) (aNil)))) (fun wa wsup => sSeq (sOwn 1 (nLst (aCons (eIsE 2 wa (wsup.contains "BadRules")) (aCons (eIsE 2 wa (wsup.contains "BadRow")) (aCons (eIsE 2 wa (wsup.contains "BadCount")) (aCons (eIsE 2 wa (wsup.contains "BadWord")) (aNil))))))) (sSeq (sOwn 1 (nCat (eVarB 1) (eFz (nLst (aCons (eIsE 2 wa (wsup.contains "Ended")) (aCons (eIsE 2 wa (wsup.contains "TooMany")) (aCons (eIsE 2 wa (wsup.contains "BadText")) (aNil)))))))) (sApp 1 (eIsE 2 wa true))))) (sFz 1 (sRet (eVar 1))))
noncomputable def M__law_kinds_of : List D → Rs D := fun ds => outD (f__law_kinds_of (startE 3 ds))

noncomputable def f_law : DS := sSeq (sAsg 1 (e2 dMod (eCall 2 M__law_cell (aCons (eVar 0) (aCons (eC (.int 0)) (aNil)))) (eC (.int 7)))) (sSeq (sIf (t2 dNe (eCall 1 M__law_kinds_of (aCons (eVar 1) (aNil))) (e2 dAdd (eFz (nLc [2] (iR1 (aCons (eC (.int 7)) (aNil))) (gN 2) (tTrue) (e2 dEq (eVar 2) (eVar 1)))) (eFz (nLst (aCons (eC (.bool true)) (aNil)))))) (sRet (eC (.bool false))) (sNil)) (sSeq (sAsg 3 (e2 dMod (eCall 2 M__law_cell (aCons (eVar 0) (aCons (eC (.int 1)) (aNil)))) (eC (.int 5)))) (sSeq (sAsg 4 (eTup (aCons (eC (.int 1)) (aCons (eTup (aCons (e2 dMul (eC (.str "a")) (eVar 3)) (aNil))) (aNil))))) (sSeq (sAsg 5 (e2 dMul (eC (.str "a")) (e2 dAdd (eC (.int 1)) (e2 dMod (eCall 2 M__law_cell (aCons (eVar 0) (aCons (eC (.int 2)) (aNil)))) (eC (.int 24)))))) (sSeq (sAsg 6 (eTup (aCons (eC (.str "grows")) (aCons (eC (.int 0)) (aCons (eC (.str "a")) (aCons (eVar 3) (aNil))))))) (sSeq (sIf (t2 dLt (eVar 3) (eC (.int 2))) (sAsg 6 (eIf (t2 dEq (eVar 3) (eC (.int 1))) (eTup (aCons (eC (.str "round")) (aCons (eC (.int 0)) (aCons (eC (.int 1)) (aNil))))) (eTup (aCons (eC (.str "ends")) (aCons (eB dLen (aCons (eVar 5) (aNil))) (aCons (eC (.str "")) (aNil))))))) (sNil)) (sSeq (sIf (tOr (t2 dNe (eCall 2 M_fate (aCons (eVar 4) (aCons (eVar 5) (aNil)))) (eVar 6)) (tOr (t2 dNe (eCall 2 M_grows_by (aCons (eVar 4) (aCons (eVar 5) (aNil)))) (eVar 3)) (t2 dNe (eCall 2 M_root (aCons (eVar 4) (aCons (eVar 5) (aNil)))) (eTup (aCons (eC (.str "a")) (aCons (eB dLen (aCons (eVar 5) (aNil))) (aNil))))))) (sRet (eC (.bool false))) (sNil)) (sSeq (sAsg 7 (eTup (aCons (eC (.int 2)) (aCons (eTup (aCons (e2 dMul (eC (.str "a")) (eVar 3)) (aNil))) (aNil))))) (sSeq (sIf (t2 dLt (eVar 3) (eC (.int 2))) (sRet (eAnd (e2 dEq (e2 dIx (eCall 2 M_fate (aCons (eVar 7) (aCons (eVar 5) (aNil)))) (eC (.int 0))) (eC (.str "ends"))) (e2 dLt (eB dLen (aCons (e2 dIx (eCall 2 M_fate (aCons (eVar 7) (aCons (eVar 5) (aNil)))) (eC (.int 2))) (aNil))) (eC (.int 2))))) (sNil)) (sSeq (sAsg 6 (eTup (aCons (eC (.str "round")) (aCons (eC (.int 0)) (aCons (eC (.int 1)) (aNil)))))) (sSeq (sIf (t2 dEq (eB dLen (aCons (eVar 5) (aNil))) (eC (.int 1))) (sAsg 6 (eTup (aCons (eC (.str "ends")) (aCons (eC (.int 0)) (aCons (eC (.str "a")) (aNil)))))) (sNil)) (sRet (eOr (e2 dGt (eVar 3) (eC (.int 2))) (e2 dEq (eCall 2 M_fate (aCons (eVar 7) (aCons (eVar 5) (aNil)))) (eVar 6)))))))))))))))
noncomputable def M_law : List D → Rs D := fun ds => outD (f_law (startE 8 ds))

end DL
namespace DL
open PySem PySem.Spec L2
noncomputable def law_0 : DS := sAsg 1 (e2 dMod (eCall 2 M__law_cell (aCons (eVar 0) (aCons (eC (.int 0)) (aNil)))) (eC (.int 7)))
noncomputable def law_1 : DS := sIf (t2 dNe (eCall 1 M__law_kinds_of (aCons (eVar 1) (aNil))) (e2 dAdd (eFz (nLc [2] (iR1 (aCons (eC (.int 7)) (aNil))) (gN 2) (tTrue) (e2 dEq (eVar 2) (eVar 1)))) (eFz (nLst (aCons (eC (.bool true)) (aNil)))))) (sRet (eC (.bool false))) (sNil)
noncomputable def law_2 : DS := sAsg 3 (e2 dMod (eCall 2 M__law_cell (aCons (eVar 0) (aCons (eC (.int 1)) (aNil)))) (eC (.int 5)))
noncomputable def law_3 : DS := sAsg 4 (eTup (aCons (eC (.int 1)) (aCons (eTup (aCons (e2 dMul (eC (.str "a")) (eVar 3)) (aNil))) (aNil))))
noncomputable def law_4 : DS := sAsg 5 (e2 dMul (eC (.str "a")) (e2 dAdd (eC (.int 1)) (e2 dMod (eCall 2 M__law_cell (aCons (eVar 0) (aCons (eC (.int 2)) (aNil)))) (eC (.int 24)))))
noncomputable def law_5 : DS := sAsg 6 (eTup (aCons (eC (.str "grows")) (aCons (eC (.int 0)) (aCons (eC (.str "a")) (aCons (eVar 3) (aNil))))))
noncomputable def law_6 : DS := sIf (t2 dLt (eVar 3) (eC (.int 2))) (sAsg 6 (eIf (t2 dEq (eVar 3) (eC (.int 1))) (eTup (aCons (eC (.str "round")) (aCons (eC (.int 0)) (aCons (eC (.int 1)) (aNil))))) (eTup (aCons (eC (.str "ends")) (aCons (eB dLen (aCons (eVar 5) (aNil))) (aCons (eC (.str "")) (aNil))))))) (sNil)
noncomputable def law_7 : DS := sIf (tOr (t2 dNe (eCall 2 M_fate (aCons (eVar 4) (aCons (eVar 5) (aNil)))) (eVar 6)) (tOr (t2 dNe (eCall 2 M_grows_by (aCons (eVar 4) (aCons (eVar 5) (aNil)))) (eVar 3)) (t2 dNe (eCall 2 M_root (aCons (eVar 4) (aCons (eVar 5) (aNil)))) (eTup (aCons (eC (.str "a")) (aCons (eB dLen (aCons (eVar 5) (aNil))) (aNil))))))) (sRet (eC (.bool false))) (sNil)
noncomputable def law_8 : DS := sAsg 7 (eTup (aCons (eC (.int 2)) (aCons (eTup (aCons (e2 dMul (eC (.str "a")) (eVar 3)) (aNil))) (aNil))))
noncomputable def law_9 : DS := sIf (t2 dLt (eVar 3) (eC (.int 2))) (sRet (eAnd (e2 dEq (e2 dIx (eCall 2 M_fate (aCons (eVar 7) (aCons (eVar 5) (aNil)))) (eC (.int 0))) (eC (.str "ends"))) (e2 dLt (eB dLen (aCons (e2 dIx (eCall 2 M_fate (aCons (eVar 7) (aCons (eVar 5) (aNil)))) (eC (.int 2))) (aNil))) (eC (.int 2))))) (sNil)
noncomputable def law_10 : DS := sAsg 6 (eTup (aCons (eC (.str "round")) (aCons (eC (.int 0)) (aCons (eC (.int 1)) (aNil)))))
noncomputable def law_11 : DS := sIf (t2 dEq (eB dLen (aCons (eVar 5) (aNil))) (eC (.int 1))) (sAsg 6 (eTup (aCons (eC (.str "ends")) (aCons (eC (.int 0)) (aCons (eC (.str "a")) (aNil)))))) (sNil)
noncomputable def law_12 : DS := sRet (eOr (e2 dGt (eVar 3) (eC (.int 2))) (e2 dEq (eCall 2 M_fate (aCons (eVar 7) (aCons (eVar 5) (aNil)))) (eVar 6)))
theorem f_law_eq : f_law = sSeq law_0 (sSeq law_1 (sSeq law_2 (sSeq law_3 (sSeq law_4 (sSeq law_5 (sSeq law_6 (sSeq law_7 (sSeq law_8 (sSeq law_9 (sSeq law_10 (sSeq law_11 (law_12)))))))))))) := rfl

noncomputable def law_kinds_of_0 : DS := sOwn 1 (nLst (aNil))
noncomputable def law_kinds_of_1 : DS := sTryAs ex__law_kinds_of "CutError" 2 (sExpr (eCall 1 M__law_deeds_of (aCons (eVar 0) (aNil)))) (fun wa wsup => sSeq (sOwn 1 (nLst (aCons (eIsE 2 wa (wsup.contains "BadRules")) (aCons (eIsE 2 wa (wsup.contains "BadRow")) (aCons (eIsE 2 wa (wsup.contains "BadCount")) (aCons (eIsE 2 wa (wsup.contains "BadWord")) (aNil))))))) (sSeq (sOwn 1 (nCat (eVarB 1) (eFz (nLst (aCons (eIsE 2 wa (wsup.contains "Ended")) (aCons (eIsE 2 wa (wsup.contains "TooMany")) (aCons (eIsE 2 wa (wsup.contains "BadText")) (aNil)))))))) (sApp 1 (eIsE 2 wa true))))
noncomputable def law_kinds_of_2 : DS := sFz 1 (sRet (eVar 1))
theorem f__law_kinds_of_eq : f__law_kinds_of = sSeq law_kinds_of_0 (sSeq law_kinds_of_1 (law_kinds_of_2)) := rfl

noncomputable def law_deeds_of_0 : DS := sAsg 1 (eTup (aCons (eC (.int 3)) (aCons (eTup (aCons (eC (.str "")) (aCons (eC (.str "a")) (aCons (eC (.str "b")) (aNil))))) (aNil))))
noncomputable def law_deeds_of_1 : DS := sIf (t2 dEq (eVar 0) (eC (.int 0))) (sRet (eCall 1 M_shown (aCons (eC .none) (aNil)))) (sNil)
noncomputable def law_deeds_of_2 : DS := sIf (t2 dEq (eVar 0) (eC (.int 1))) (sRet (eCall 2 M_fate (aCons (eVar 1) (aCons (eC (.str "d")) (aNil))))) (sNil)
noncomputable def law_deeds_of_3 : DS := sIf (t2 dEq (eVar 0) (eC (.int 2))) (sRet (eCall 3 M_after (aCons (eVar 1) (aCons (eC (.str "")) (aCons (eC (.int 201)) (aNil)))))) (sNil)
noncomputable def law_deeds_of_4 : DS := sIf (t2 dEq (eVar 0) (eC (.int 3))) (sRet (eCall 2 M_image (aCons (eVar 1) (aCons (eC (.str "a")) (aNil))))) (sNil)
noncomputable def law_deeds_of_5 : DS := sIf (t2 dEq (eVar 0) (eC (.int 4))) (sRet (eCall 2 M_next_row (aCons (eVar 1) (aCons (eC (.str "aa")) (aNil))))) (sNil)
noncomputable def law_deeds_of_6 : DS := sRet (eIf (t2 dEq (eVar 0) (eC (.int 5))) (eCall 3 M_leading (aCons (eVar 1) (aCons (eC (.str "")) (aCons (eC (.int 4)) (aNil))))) (eCall 1 M_read (aCons (eC (.str "")) (aNil))))
theorem f__law_deeds_of_eq : f__law_deeds_of = sSeq law_deeds_of_0 (sSeq law_deeds_of_1 (sSeq law_deeds_of_2 (sSeq law_deeds_of_3 (sSeq law_deeds_of_4 (sSeq law_deeds_of_5 (law_deeds_of_6)))))) := rfl

theorem kinds_of {k : Int} {c : Str} {sup : List Str} (h : M__law_deeds_of [.int k] = .ex c) (hl : ex__law_kinds_of.lookup c = some sup) (hc : sup.contains "CutError" = true) :
    M__law_kinds_of [.int k] = .ok (.list [.bool (sup.contains "BadRules"), .bool (sup.contains "BadRow"), .bool (sup.contains "BadCount"), .bool (sup.contains "BadWord"), .bool (sup.contains "Ended"), .bool (sup.contains "TooMany"), .bool (sup.contains "BadText"), .bool true]) := by
  have z4 : 4 ≤ sizeLine := size1 (by omega)
  have z3 : 3 ≤ sizeLine := size1 (by omega)
  have z7 : 7 ≤ sizeLine := size1 (by omega)
  have z7' : 7 < sizeLine := size1 (by omega)
  have z0 : 0 ≤ sizeLine := size1 (by omega)
  have st : law_kinds_of_1 [some (.fz (.int k)), some (.own []), none] = .nx [some (.fz (.int k)), some (.own [.bool (sup.contains "BadRules"), .bool (sup.contains "BadRow"), .bool (sup.contains "BadCount"), .bool (sup.contains "BadWord"), .bool (sup.contains "Ended"), .bool (sup.contains "TooMany"), .bool (sup.contains "BadText"), .bool true]), none] := by
    unfold law_kinds_of_1 sTryAs
    have e : sExpr (eCall 1 M__law_deeds_of (aCons (eVar 0) (aNil))) [some (.fz (.int k)), some (.own []), none] = .ex c [some (.fz (.int k)), some (.own []), none] := by simp [h]
    rw [e]
    dsimp only
    rw [hl]
    dsimp only
    rw [if_pos hc]
    refine allA_eq fun a => ?_
    generalize sup.contains "BadRules" = c1
    generalize sup.contains "BadRow" = c2
    generalize sup.contains "BadCount" = c3
    generalize sup.contains "BadWord" = c4
    generalize sup.contains "Ended" = c5
    generalize sup.contains "TooMany" = c6
    generalize sup.contains "BadText" = c7
    have i2 : ∀ (x : Option LV) (b : Bool), eIsE 2 a b [some (.fz (.int k)), x, some (.hd a)] = .ok (.bool b) := fun x b => by simp [eIsE]
    simp [i2, z4, z3, z7, z7', clr, nCat]
  have e0 : law_kinds_of_0 [some (.fz (.int k)), none, none] = .nx [some (.fz (.int k)), some (.own []), none] := by simp [law_kinds_of_0, z0]
  show outD (f__law_kinds_of [some (.fz (.int k)), none, none]) = _
  rw [f__law_kinds_of_eq, seq_step e0, seq_step st]
  generalize sup.contains "BadRules" = c1
  generalize sup.contains "BadRow" = c2
  generalize sup.contains "BadCount" = c3
  generalize sup.contains "BadWord" = c4
  generalize sup.contains "Ended" = c5
  generalize sup.contains "TooMany" = c6
  generalize sup.contains "BadText" = c7
  simp [law_kinds_of_2]
def r3 : Ru := ⟨3, [some [], some [97], some [98]]⟩
theorem r3_ok : r3.Ok := by
  refine ⟨by decide, by decide, by decide, by decide, ?_⟩
  intro x hx
  simp only [r3, List.mem_cons, List.not_mem_nil, or_false, Option.some.injEq] at hx
  rcases hx with rfl | rfl | rfl
  · exact ⟨by decide, fun c hc => (nomatch hc)⟩
  · exact ⟨by decide, fun c hc => by simp at hc; subst hc; decide⟩
  · exact ⟨by decide, fun c hc => by simp at hc; subst hc; decide⟩
theorem r3_D : PyData.tuple [.int 3, .tuple [.str "", .str "a", .str "b"]] = rD r3 := by rfl
theorem addN_nodup {acc : List (List Nat)} {h : List Nat} (n : acc.Nodup) : (addN acc h).Nodup := by
  unfold addN
  split
  · exact n
  · rename_i hh
    exact List.nodup_append.mpr ⟨n, by simp, fun a ha b hb => by simp at hb; subst hb; rintro rfl; exact hh ha⟩
theorem addL_nodup : ∀ (ws acc : List (List Nat)), acc.Nodup → (addL ws acc).Nodup
  | [], acc, n => n
  | w :: ws, acc, n => addL_nodup ws (addN acc w) (addN_nodup n)
theorem mem_addN {acc : List (List Nat)} {h x : List Nat} : x ∈ addN acc h ↔ x ∈ acc ∨ x = h := by
  unfold addN
  split
  · rename_i hh
    exact ⟨.inl, fun z => z.elim id fun e => e ▸ hh⟩
  · simp
theorem mem_addL {x : List Nat} : ∀ (ws acc : List (List Nat)), x ∈ addL ws acc ↔ x ∈ acc ∨ x ∈ ws
  | [], acc => by simp [addL]
  | w :: ws, acc => by
    show x ∈ addL ws (addN acc w) ↔ _
    rw [mem_addL ws, mem_addN]; simp; exact ⟨fun h => by rcases h with (h | h) | h <;> simp [h], fun h => by rcases h with h | h | h <;> simp [h]⟩
theorem mem_leadS {r : Ru} {rows : List (List Nat)} {x : List Nat} : x ∈ leadS r rows ↔ ∃ l ∈ rows, x ∈ aheadU r l := by
  unfold leadS
  rw [mem_addL]
  simp [aheadM, sortN_mem]
theorem sub_len : ∀ {xs ys : List (List Nat)}, xs.Nodup → (∀ x ∈ xs, x ∈ ys) → xs.length ≤ ys.length
  | [], ys, _, _ => Nat.zero_le _
  | x :: xs, ys, n, h => by
    have hx := h x (by simp)
    obtain ⟨n1, n2⟩ := List.nodup_cons.mp n
    have ih := sub_len (ys := ys.erase x) n2 fun y hy => by
      have hne : y ≠ x := by rintro rfl; exact n1 hy
      exact (List.mem_erase_of_ne hne).mpr (h y (by simp [hy]))
    rw [List.length_erase_of_mem hx] at ih
    have := List.length_pos_of_mem hx
    rw [List.length_cons]; omega
def hs3 : List (List Nat) := heads (lets r3) 2 [[97]]
theorem hs3_eq : hs3 = [[97, 97, 97], [97, 97, 98], [97, 97, 99], [97, 98, 97], [97, 98, 98], [97, 98, 99], [97, 99, 97], [97, 99, 98], [97, 99, 99]] := by decide +kernel
theorem hs3_len : ∀ o ∈ hs3, o.length = 3 := by rw [hs3_eq]; decide
theorem app_same {o o' l l' : List Nat} (h : o.length = o'.length) (e : o ++ l = o' ++ l') : o = o' ∧ l = l' := List.append_inj e h
theorem map_nodup (l : List Nat) : ∀ {hs : List (List Nat)}, hs.Nodup → (hs.map fun o => o ++ l).Nodup
  | [], _ => .nil
  | o :: hs, n => by
    obtain ⟨n1, n2⟩ := List.nodup_cons.mp n
    refine List.nodup_cons.mpr ⟨fun z => ?_, map_nodup l n2⟩
    obtain ⟨o', h1, h2⟩ := List.mem_map.mp z
    exact n1 (List.append_cancel_right h2 ▸ h1)
theorem cat_nodup {hs : List (List Nat)} (hn : hs.Nodup) (hl : ∀ o ∈ hs, o.length = 3) : ∀ {rows : List (List Nat)}, rows.Nodup → (rows.flatMap fun l => hs.map fun o => o ++ l).Nodup
  | [], _ => .nil
  | l :: rows, n => by
    obtain ⟨n1, n2⟩ := List.nodup_cons.mp n
    rw [List.flatMap_cons]
    refine List.nodup_append.mpr ⟨map_nodup l hn, cat_nodup hn hl n2, fun a ha b hb e => ?_⟩
    subst e
    obtain ⟨o, h1, rfl⟩ := List.mem_map.mp ha
    obtain ⟨l', h2, h3⟩ := List.mem_flatMap.mp hb
    obtain ⟨o', h4, h5⟩ := List.mem_map.mp h3
    exact n1 ((app_same ((hl o' h4).trans (hl o h1).symm) h5).2 ▸ h2)
theorem cat_len {hs : List (List Nat)} : ∀ rows : List (List Nat), (rows.flatMap fun l => hs.map fun o => o ++ l).length = hs.length * rows.length
  | [] => by simp
  | l :: rows => by rw [List.flatMap_cons, List.length_append, cat_len rows, List.length_map, List.length_cons, Nat.mul_succ]; omega
theorem lead_grow {rows : List (List Nat)} (n : rows.Nodup) : 9 * rows.length ≤ (leadS r3 rows).length := by
  have nd : hs3.Nodup := by rw [hs3_eq]; decide
  have hl : hs3.length = 9 := by rw [hs3_eq]; rfl
  have := sub_len (cat_nodup nd hs3_len n) (ys := leadS r3 rows) fun x hx => by
    obtain ⟨l, h1, h2⟩ := List.mem_flatMap.mp hx
    obtain ⟨o, h3, rfl⟩ := List.mem_map.mp h2
    rw [mem_leadS]
    refine ⟨l, h1, List.mem_flatMap.mpr ⟨97, by decide, ?_⟩⟩
    have ew : wordOf r3 97 = some [] := by decide
    unfold aheadC
    rw [ew]
    simp only [List.length_nil, Nat.sub_zero, List.drop_length, List.take_length, if_true]
    exact List.mem_map.mpr ⟨o, h3, rfl⟩
  rw [cat_len, hl] at this
  exact this
theorem leadS_nodup (r : Ru) (rows : List (List Nat)) : (leadS r rows).Nodup := addL_nodup _ _ List.Pairwise.nil
theorem sortN_nodup {ls : List (List Nat)} (h : ls.Nodup) : (sortN ls).Nodup := (List.mergeSort_perm ls leN).nodup_iff.mpr h
theorem sortN_len (ls : List (List Nat)) : (sortN ls).length = ls.length := by unfold sortN; rw [List.length_mergeSort]
theorem lead_many : leadR r3 4 [[]] = none := by
  have g1 := lead_grow (rows := [[]]) (by simp)
  have g2 := lead_grow (sortN_nodup (leadS_nodup r3 [[]]))
  have g3 := lead_grow (sortN_nodup (leadS_nodup r3 (sortN (leadS r3 [[]]))))
  rw [sortN_len] at g2 g3
  simp only [List.length_cons, List.length_nil] at g1
  unfold leadR
  by_cases h1 : 500 < (leadS r3 [[]]).length
  · rw [if_pos h1]
  rw [if_neg h1]
  unfold leadR
  by_cases h2 : 500 < (leadS r3 (sortN (leadS r3 [[]]))).length
  · rw [if_pos h2]
  rw [if_neg h2]
  unfold leadR
  rw [if_pos (by omega)]
theorem deed0 : M__law_deeds_of [.int 0] = .ex "BadRules" := by
  have size2 : 2 ≤ sizeLine := size1 (by omega)
  have size3 : 3 ≤ sizeLine := size1 (by omega)
  have e : M_shown [.none] = .ex "BadRules" := by simp [M_shown, f_shown, startE, M_look, f_look, M_is_rules, f_is_rules]
  show outD (f__law_deeds_of [some (.fz (.int 0)), none]) = _
  simp [f__law_deeds_of, e, size2, size3]
theorem r3_row : rowOk r3 [] := ⟨fun c hc => (nomatch hc), by decide⟩
theorem S_a12 : (Str.ofString "a") = S [97] := by decide +kernel
theorem S_b12 : (Str.ofString "b") = S [98] := by decide +kernel
theorem S_d12 : (Str.ofString "d") = S [100] := by decide +kernel
theorem S_aa12 : (Str.ofString "aa") = S [97, 97] := by decide +kernel
theorem r3_D' : PyData.tuple [.int 3, .tuple [.str (S []), .str (S [97]), .str (S [98])]] = rD r3 := by rfl
theorem deeds_pre (k : Int) (g : DS) : sSeq law_deeds_of_0 g [some (.fz (.int k)), none] = g [some (.fz (.int k)), some (.fz (rD r3))] := by
  have z2 : 2 ≤ sizeLine := size1 (by omega)
  have z3 : 3 ≤ sizeLine := size1 (by omega)
  simp [law_deeds_of_0, z2, z3, S_nil, S_a12, S_b12, r3_D']
theorem deeds_run (k : Int) : M__law_deeds_of [.int k] = outD (sSeq law_deeds_of_1 (sSeq law_deeds_of_2 (sSeq law_deeds_of_3 (sSeq law_deeds_of_4 (sSeq law_deeds_of_5 (law_deeds_of_6))))) [some (.fz (.int k)), some (.fz (rD r3))]) := by
  show outD (f__law_deeds_of [some (.fz (.int k)), none]) = _
  rw [f__law_deeds_of_eq, deeds_pre]
theorem deed1 : M__law_deeds_of [.int 1] = .ex "BadRow" := by
  have e : M_fate [rD r3, sD [100]] = .ex "BadRow" := by
    have ir : M_is_row [rD r3, sD [100]] = .ok (.bool false) := by
      have iw : M_is_word [.int 3, sD [100], .int 24] = .ok (.bool false) := by
        have := M_is_word_str (n := 3) (m := 24) (l := [100]) (by omega) (by omega)
        rw [show wordOk 3 24 [100] = false by decide] at this
        exact this
      have rl : r3.ws.length = 3 := rfl
      simp [M_is_row, f_is_row, startE, iw, rl]
    have lk : M_look_row [rD r3, sD [100]] = .ex "BadRow" := by
      have lo : M_look [rD r3] = .ok .none := by simp [M_look, f_look, startE, M_is_rules_ok r3_ok]
      simp [M_look_row, f_look_row, startE, lo, ir]
    simp [M_fate, f_fate, startE, lk]
  rw [deeds_run]
  simp [law_deeds_of_1, law_deeds_of_2, law_deeds_of_3, law_deeds_of_4, law_deeds_of_5, law_deeds_of_6, S_d12, e]
theorem deed2 : M__law_deeds_of [.int 2] = .ex "BadCount" := by
  have e : M_after [rD r3, sD [], .int 201] = .ex "BadCount" := M_after_bad r3_ok r3_row (within_no (by omega))
  rw [deeds_run]
  simp [law_deeds_of_1, law_deeds_of_2, law_deeds_of_3, law_deeds_of_4, law_deeds_of_5, law_deeds_of_6, S_nil, e]
theorem deed3 : M__law_deeds_of [.int 3] = .ex "BadWord" := by
  have e : M_image [rD r3, sD [97]] = .ex "BadWord" := by
    rw [M_image_eq r3_ok ⟨fun c hc => by simp at hc; subst hc; decide, by decide⟩]
    rw [if_neg (by decide)]
  rw [deeds_run]
  simp [law_deeds_of_1, law_deeds_of_2, law_deeds_of_3, law_deeds_of_4, law_deeds_of_5, law_deeds_of_6, S_a12, e]
theorem deed4 : M__law_deeds_of [.int 4] = .ex "Ended" := by
  have e : M_next_row [rD r3, sD [97, 97]] = .ex "Ended" := by
    rw [M_next_row_eq r3_ok ⟨fun c hc => by simp at hc; subst hc; decide, by decide⟩]
    rw [if_pos (by decide)]
  rw [deeds_run]
  simp [law_deeds_of_1, law_deeds_of_2, law_deeds_of_3, law_deeds_of_4, law_deeds_of_5, law_deeds_of_6, S_aa12, e]
theorem deed5 : M__law_deeds_of [.int 5] = .ex "TooMany" := by
  have e : M_leading [rD r3, sD [], .int 4] = .ex "TooMany" := by
    have := M_leading_eq r3_ok r3_row (n := 4) (by omega)
    rw [lead_many] at this
    exact this
  rw [deeds_run]
  simp [law_deeds_of_1, law_deeds_of_2, law_deeds_of_3, law_deeds_of_4, law_deeds_of_5, law_deeds_of_6, S_nil, e]
theorem deed6 : M__law_deeds_of [.int 6] = .ex "BadText" := by
  have e : M_read [.str (S [])] = .ex "BadText" := by
    have sp : dSplit (.str (S [])) [.str (Str.ofString " ")] = some [.str (S [])] := by
      have := v_split (c := 32) (by decide) (ls := [[]]) (by simp) (by simp) (by simp [jnL]) (by simp)
      have e : (Str.ofString " ") = S [32] := by decide +kernel
      rw [e]
      exact this
    have ni : dNotIn (.str (S [])) (.tuple [.str "1", .str "2", .str "3"]) = some (.bool true) := by rfl
    have z3 : 3 ≤ sizeLine := size1 (by omega)
    simp [M_read, f_read, startE, nM, sp, ni, z3]
  rw [deeds_run]
  simp [law_deeds_of_1, law_deeds_of_2, law_deeds_of_3, law_deeds_of_4, law_deeds_of_5, law_deeds_of_6, S_nil, e]
def rA (m : Nat) : Ru := ⟨1, [some (List.replicate m 97)]⟩
def rB (m : Nat) : Ru := ⟨2, [some (List.replicate m 97)]⟩
theorem rA_ok {m : Nat} (h : m ≤ 4) : (rA m).Ok := ⟨by simp [rA], by simp [rA], by simp [rA], by simp [rA], fun x hx => by
  simp only [rA, List.mem_cons, List.not_mem_nil, or_false, Option.some.injEq] at hx
  subst hx
  exact ⟨by simp; omega, fun c hc => by have := List.eq_of_mem_replicate hc; subst this; simp [rA]⟩⟩
theorem rB_ok {m : Nat} (h : m ≤ 4) : (rB m).Ok := ⟨by simp [rB], by simp [rB], by simp [rB], by simp [rB], fun x hx => by
  simp only [rB, List.mem_cons, List.not_mem_nil, or_false, Option.some.injEq] at hx
  subst hx
  exact ⟨by simp; omega, fun c hc => by have := List.eq_of_mem_replicate hc; subst this; simp [rB]⟩⟩
def fEq : Fate → Fate → Bool
  | .ends a l, .ends b k => decide (a = b) && decide (l = k)
  | .round a p, .round b q => decide (a = b) && decide (p = q)
  | .grows a p k, .grows b q l => decide (a = b) && (decide (p = q) && decide (k = l))
  | .far a b, .far c d => decide (a = c) && decide (b = d)
  | _, _ => false
theorem fEq_ok {f g : Fate} (h : fEq f g = true) : f = g := by
  cases f <;> cases g <;> simp [fEq] at h ⊢ <;> exact h
def dueF (m n : Nat) : Fate := if m = 0 then .ends n [] else if m = 1 then .round 0 1 else .grows 0 [97] m
def isEnds : Fate → Bool
  | .ends _ l => decide (l.length < 2)
  | _ => false
theorem fates_a : ∀ m : Fin 5, ∀ n : Fin 24, fEq (fateM (rA m) (List.replicate (n.val + 1) 97)) (dueF m (n.val + 1)) = true ∧ shareM (rA m) (List.replicate (n.val + 1) 97) = some m.val ∧ rootM (List.replicate (n.val + 1) 97) = ([97], n.val + 1) ∧
    (m.val < 2 → isEnds (fateM (rB m) (List.replicate (n.val + 1) 97)) = true) ∧ (m.val = 2 → fEq (fateM (rB m) (List.replicate (n.val + 1) 97)) (if n.val = 0 then .ends 0 [97] else .round 0 1) = true) := by decide +kernel
theorem kind0 : M__law_kinds_of [.int 0] = .ok (.list [.bool true, .bool false, .bool false, .bool false, .bool false, .bool false, .bool false, .bool true]) := by
  have h := kinds_of deed0 (sup := (["BadRules", "CutError", "ValueError"] : List Str)) (by rfl) (by decide +kernel)
  rw [show (["BadRules", "CutError", "ValueError"] : List Str).contains "BadRules" = true by decide +kernel] at h
  rw [show (["BadRules", "CutError", "ValueError"] : List Str).contains "BadRow" = false by decide +kernel] at h
  rw [show (["BadRules", "CutError", "ValueError"] : List Str).contains "BadCount" = false by decide +kernel] at h
  rw [show (["BadRules", "CutError", "ValueError"] : List Str).contains "BadWord" = false by decide +kernel] at h
  rw [show (["BadRules", "CutError", "ValueError"] : List Str).contains "Ended" = false by decide +kernel] at h
  rw [show (["BadRules", "CutError", "ValueError"] : List Str).contains "TooMany" = false by decide +kernel] at h
  rw [show (["BadRules", "CutError", "ValueError"] : List Str).contains "BadText" = false by decide +kernel] at h
  exact h
theorem kind1 : M__law_kinds_of [.int 1] = .ok (.list [.bool false, .bool true, .bool false, .bool false, .bool false, .bool false, .bool false, .bool true]) := by
  have h := kinds_of deed1 (sup := (["BadRow", "CutError", "ValueError"] : List Str)) (by rfl) (by decide +kernel)
  rw [show (["BadRow", "CutError", "ValueError"] : List Str).contains "BadRules" = false by decide +kernel] at h
  rw [show (["BadRow", "CutError", "ValueError"] : List Str).contains "BadRow" = true by decide +kernel] at h
  rw [show (["BadRow", "CutError", "ValueError"] : List Str).contains "BadCount" = false by decide +kernel] at h
  rw [show (["BadRow", "CutError", "ValueError"] : List Str).contains "BadWord" = false by decide +kernel] at h
  rw [show (["BadRow", "CutError", "ValueError"] : List Str).contains "Ended" = false by decide +kernel] at h
  rw [show (["BadRow", "CutError", "ValueError"] : List Str).contains "TooMany" = false by decide +kernel] at h
  rw [show (["BadRow", "CutError", "ValueError"] : List Str).contains "BadText" = false by decide +kernel] at h
  exact h
theorem kind2 : M__law_kinds_of [.int 2] = .ok (.list [.bool false, .bool false, .bool true, .bool false, .bool false, .bool false, .bool false, .bool true]) := by
  have h := kinds_of deed2 (sup := (["BadCount", "CutError", "ValueError"] : List Str)) (by rfl) (by decide +kernel)
  rw [show (["BadCount", "CutError", "ValueError"] : List Str).contains "BadRules" = false by decide +kernel] at h
  rw [show (["BadCount", "CutError", "ValueError"] : List Str).contains "BadRow" = false by decide +kernel] at h
  rw [show (["BadCount", "CutError", "ValueError"] : List Str).contains "BadCount" = true by decide +kernel] at h
  rw [show (["BadCount", "CutError", "ValueError"] : List Str).contains "BadWord" = false by decide +kernel] at h
  rw [show (["BadCount", "CutError", "ValueError"] : List Str).contains "Ended" = false by decide +kernel] at h
  rw [show (["BadCount", "CutError", "ValueError"] : List Str).contains "TooMany" = false by decide +kernel] at h
  rw [show (["BadCount", "CutError", "ValueError"] : List Str).contains "BadText" = false by decide +kernel] at h
  exact h
theorem kind3 : M__law_kinds_of [.int 3] = .ok (.list [.bool false, .bool false, .bool false, .bool true, .bool false, .bool false, .bool false, .bool true]) := by
  have h := kinds_of deed3 (sup := (["BadWord", "CutError", "ValueError"] : List Str)) (by rfl) (by decide +kernel)
  rw [show (["BadWord", "CutError", "ValueError"] : List Str).contains "BadRules" = false by decide +kernel] at h
  rw [show (["BadWord", "CutError", "ValueError"] : List Str).contains "BadRow" = false by decide +kernel] at h
  rw [show (["BadWord", "CutError", "ValueError"] : List Str).contains "BadCount" = false by decide +kernel] at h
  rw [show (["BadWord", "CutError", "ValueError"] : List Str).contains "BadWord" = true by decide +kernel] at h
  rw [show (["BadWord", "CutError", "ValueError"] : List Str).contains "Ended" = false by decide +kernel] at h
  rw [show (["BadWord", "CutError", "ValueError"] : List Str).contains "TooMany" = false by decide +kernel] at h
  rw [show (["BadWord", "CutError", "ValueError"] : List Str).contains "BadText" = false by decide +kernel] at h
  exact h
theorem kind4 : M__law_kinds_of [.int 4] = .ok (.list [.bool false, .bool false, .bool false, .bool false, .bool true, .bool false, .bool false, .bool true]) := by
  have h := kinds_of deed4 (sup := (["Ended", "CutError", "ValueError"] : List Str)) (by rfl) (by decide +kernel)
  rw [show (["Ended", "CutError", "ValueError"] : List Str).contains "BadRules" = false by decide +kernel] at h
  rw [show (["Ended", "CutError", "ValueError"] : List Str).contains "BadRow" = false by decide +kernel] at h
  rw [show (["Ended", "CutError", "ValueError"] : List Str).contains "BadCount" = false by decide +kernel] at h
  rw [show (["Ended", "CutError", "ValueError"] : List Str).contains "BadWord" = false by decide +kernel] at h
  rw [show (["Ended", "CutError", "ValueError"] : List Str).contains "Ended" = true by decide +kernel] at h
  rw [show (["Ended", "CutError", "ValueError"] : List Str).contains "TooMany" = false by decide +kernel] at h
  rw [show (["Ended", "CutError", "ValueError"] : List Str).contains "BadText" = false by decide +kernel] at h
  exact h
theorem kind5 : M__law_kinds_of [.int 5] = .ok (.list [.bool false, .bool false, .bool false, .bool false, .bool false, .bool true, .bool false, .bool true]) := by
  have h := kinds_of deed5 (sup := (["TooMany", "CutError", "ValueError"] : List Str)) (by rfl) (by decide +kernel)
  rw [show (["TooMany", "CutError", "ValueError"] : List Str).contains "BadRules" = false by decide +kernel] at h
  rw [show (["TooMany", "CutError", "ValueError"] : List Str).contains "BadRow" = false by decide +kernel] at h
  rw [show (["TooMany", "CutError", "ValueError"] : List Str).contains "BadCount" = false by decide +kernel] at h
  rw [show (["TooMany", "CutError", "ValueError"] : List Str).contains "BadWord" = false by decide +kernel] at h
  rw [show (["TooMany", "CutError", "ValueError"] : List Str).contains "Ended" = false by decide +kernel] at h
  rw [show (["TooMany", "CutError", "ValueError"] : List Str).contains "TooMany" = true by decide +kernel] at h
  rw [show (["TooMany", "CutError", "ValueError"] : List Str).contains "BadText" = false by decide +kernel] at h
  exact h
theorem kind6 : M__law_kinds_of [.int 6] = .ok (.list [.bool false, .bool false, .bool false, .bool false, .bool false, .bool false, .bool true, .bool true]) := by
  have h := kinds_of deed6 (sup := (["BadText", "CutError", "ValueError"] : List Str)) (by rfl) (by decide +kernel)
  rw [show (["BadText", "CutError", "ValueError"] : List Str).contains "BadRules" = false by decide +kernel] at h
  rw [show (["BadText", "CutError", "ValueError"] : List Str).contains "BadRow" = false by decide +kernel] at h
  rw [show (["BadText", "CutError", "ValueError"] : List Str).contains "BadCount" = false by decide +kernel] at h
  rw [show (["BadText", "CutError", "ValueError"] : List Str).contains "BadWord" = false by decide +kernel] at h
  rw [show (["BadText", "CutError", "ValueError"] : List Str).contains "Ended" = false by decide +kernel] at h
  rw [show (["BadText", "CutError", "ValueError"] : List Str).contains "TooMany" = false by decide +kernel] at h
  rw [show (["BadText", "CutError", "ValueError"] : List Str).contains "BadText" = true by decide +kernel] at h
  exact h
theorem bl_ne (ds : List PyData) (h : ∀ d ∈ ds, ∃ b, d = .bool b) : dNe (.list ds) (.list ds) = some (.bool false) := by
  refine dNe_self _ ?_ ?_
  · have := depthAll_le (n := 0) (ds := ds) fun d hd => by obtain ⟨b, rfl⟩ := h d hd; exact Nat.le_refl 0
    show PyData.depthAll ds + 1 ≤ 64
    omega
  · show PyData.eqvAll ds ds = true
    induction ds with
    | nil => rfl
    | cons a r ih =>
      obtain ⟨b, rfl⟩ := h a (by simp)
      show (PyData.eqv (.bool b) (.bool b) && PyData.eqvAll r r) = true
      rw [ih fun d hd => h d (by simp [hd])]
      simp [PyData.eqv]
theorem st1_0 (ns : List Int) (g : DS) : sSeq law_1 g [some (.fz (nsD ns)), some (.fz (.int 0)), none, none, none, none, none, none] = g [some (.fz (nsD ns)), some (.fz (.int 0)), none, none, none, none, none, none] := by
  have h := kind0
  have r7 : rangeD 0 7 = [.int 0, .int 1, .int 2, .int 3, .int 4, .int 5, .int 6] := rfl
  have i7 : inR 7 = true := by decide
  have z1 : 1 ≤ sizeLine := size1 (by omega)
  have z7 : 7 ≤ sizeLine := size1 (by omega)
  have z8 : 8 ≤ sizeLine := size1 (by omega)
  have z71 : 7 + 1 ≤ sizeLine := size1 (by omega)
  have n := bl_ne [.bool true, .bool false, .bool false, .bool false, .bool false, .bool false, .bool false, .bool true] (by simp)
  simp [law_1, h, i7, r7, lcL, z1, z7, z8, z71, n]
theorem st1_1 (ns : List Int) (g : DS) : sSeq law_1 g [some (.fz (nsD ns)), some (.fz (.int 1)), none, none, none, none, none, none] = g [some (.fz (nsD ns)), some (.fz (.int 1)), none, none, none, none, none, none] := by
  have h := kind1
  have r7 : rangeD 0 7 = [.int 0, .int 1, .int 2, .int 3, .int 4, .int 5, .int 6] := rfl
  have i7 : inR 7 = true := by decide
  have z1 : 1 ≤ sizeLine := size1 (by omega)
  have z7 : 7 ≤ sizeLine := size1 (by omega)
  have z8 : 8 ≤ sizeLine := size1 (by omega)
  have z71 : 7 + 1 ≤ sizeLine := size1 (by omega)
  have n := bl_ne [.bool false, .bool true, .bool false, .bool false, .bool false, .bool false, .bool false, .bool true] (by simp)
  simp [law_1, h, i7, r7, lcL, z1, z7, z8, z71, n]
theorem st1_2 (ns : List Int) (g : DS) : sSeq law_1 g [some (.fz (nsD ns)), some (.fz (.int 2)), none, none, none, none, none, none] = g [some (.fz (nsD ns)), some (.fz (.int 2)), none, none, none, none, none, none] := by
  have h := kind2
  have r7 : rangeD 0 7 = [.int 0, .int 1, .int 2, .int 3, .int 4, .int 5, .int 6] := rfl
  have i7 : inR 7 = true := by decide
  have z1 : 1 ≤ sizeLine := size1 (by omega)
  have z7 : 7 ≤ sizeLine := size1 (by omega)
  have z8 : 8 ≤ sizeLine := size1 (by omega)
  have z71 : 7 + 1 ≤ sizeLine := size1 (by omega)
  have n := bl_ne [.bool false, .bool false, .bool true, .bool false, .bool false, .bool false, .bool false, .bool true] (by simp)
  simp [law_1, h, i7, r7, lcL, z1, z7, z8, z71, n]
theorem st1_3 (ns : List Int) (g : DS) : sSeq law_1 g [some (.fz (nsD ns)), some (.fz (.int 3)), none, none, none, none, none, none] = g [some (.fz (nsD ns)), some (.fz (.int 3)), none, none, none, none, none, none] := by
  have h := kind3
  have r7 : rangeD 0 7 = [.int 0, .int 1, .int 2, .int 3, .int 4, .int 5, .int 6] := rfl
  have i7 : inR 7 = true := by decide
  have z1 : 1 ≤ sizeLine := size1 (by omega)
  have z7 : 7 ≤ sizeLine := size1 (by omega)
  have z8 : 8 ≤ sizeLine := size1 (by omega)
  have z71 : 7 + 1 ≤ sizeLine := size1 (by omega)
  have n := bl_ne [.bool false, .bool false, .bool false, .bool true, .bool false, .bool false, .bool false, .bool true] (by simp)
  simp [law_1, h, i7, r7, lcL, z1, z7, z8, z71, n]
theorem st1_4 (ns : List Int) (g : DS) : sSeq law_1 g [some (.fz (nsD ns)), some (.fz (.int 4)), none, none, none, none, none, none] = g [some (.fz (nsD ns)), some (.fz (.int 4)), none, none, none, none, none, none] := by
  have h := kind4
  have r7 : rangeD 0 7 = [.int 0, .int 1, .int 2, .int 3, .int 4, .int 5, .int 6] := rfl
  have i7 : inR 7 = true := by decide
  have z1 : 1 ≤ sizeLine := size1 (by omega)
  have z7 : 7 ≤ sizeLine := size1 (by omega)
  have z8 : 8 ≤ sizeLine := size1 (by omega)
  have z71 : 7 + 1 ≤ sizeLine := size1 (by omega)
  have n := bl_ne [.bool false, .bool false, .bool false, .bool false, .bool true, .bool false, .bool false, .bool true] (by simp)
  simp [law_1, h, i7, r7, lcL, z1, z7, z8, z71, n]
theorem st1_5 (ns : List Int) (g : DS) : sSeq law_1 g [some (.fz (nsD ns)), some (.fz (.int 5)), none, none, none, none, none, none] = g [some (.fz (nsD ns)), some (.fz (.int 5)), none, none, none, none, none, none] := by
  have h := kind5
  have r7 : rangeD 0 7 = [.int 0, .int 1, .int 2, .int 3, .int 4, .int 5, .int 6] := rfl
  have i7 : inR 7 = true := by decide
  have z1 : 1 ≤ sizeLine := size1 (by omega)
  have z7 : 7 ≤ sizeLine := size1 (by omega)
  have z8 : 8 ≤ sizeLine := size1 (by omega)
  have z71 : 7 + 1 ≤ sizeLine := size1 (by omega)
  have n := bl_ne [.bool false, .bool false, .bool false, .bool false, .bool false, .bool true, .bool false, .bool true] (by simp)
  simp [law_1, h, i7, r7, lcL, z1, z7, z8, z71, n]
theorem st1_6 (ns : List Int) (g : DS) : sSeq law_1 g [some (.fz (nsD ns)), some (.fz (.int 6)), none, none, none, none, none, none] = g [some (.fz (nsD ns)), some (.fz (.int 6)), none, none, none, none, none, none] := by
  have h := kind6
  have r7 : rangeD 0 7 = [.int 0, .int 1, .int 2, .int 3, .int 4, .int 5, .int 6] := rfl
  have i7 : inR 7 = true := by decide
  have z1 : 1 ≤ sizeLine := size1 (by omega)
  have z7 : 7 ≤ sizeLine := size1 (by omega)
  have z8 : 8 ≤ sizeLine := size1 (by omega)
  have z71 : 7 + 1 ≤ sizeLine := size1 (by omega)
  have n := bl_ne [.bool false, .bool false, .bool false, .bool false, .bool false, .bool false, .bool true, .bool true] (by simp)
  simp [law_1, h, i7, r7, lcL, z1, z7, z8, z71, n]

theorem row_ok {r : Ru} {l : List Nat} (h : ∀ c ∈ l, c = 97) (h1 : 1 ≤ r.ws.length) (hl : l.length ≤ 24) : rowOk r l := ⟨fun c hc => by rw [h c hc]; omega, hl⟩
theorem rep_a (k : Nat) : strRep (S [97]) (k : Int) = S (List.replicate k 97) := by
  rw [strRep_S, Int.toNat_natCast]
  congr 1
  show (List.replicate k [97]).flatten = _
  induction k with
  | zero => rfl
  | succ k ih => rw [List.replicate_succ, List.flatten_cons, ih]; rfl
theorem kE12 : decide (("ends" : Str) = "ends") = true := by decide +kernel
theorem at2_12 (a b c : PyData) : atI [a, b, c] 2 = some c := id rfl
theorem fD_ne12 (f : Fate) : dNe (fD f) (fD f) = some (.bool false) := by
  cases f <;> exact dNe_self _ (by simp [fD, PyData.depth, PyData.depthAll]) (by simp [fD, PyData.eqv, PyData.eqvAll])
theorem fD_eq12 (f : Fate) : dEq (fD f) (fD f) = some (.bool true) := by
  cases f <;> exact dEq_self _ (by simp [fD, PyData.depth, PyData.depthAll]) (by simp [fD, PyData.eqv, PyData.eqvAll])
theorem law_true : ∀ ns : List Int, ns.length ≤ 63 → M_law [.list (ns.map PyData.int)] = .ok (.bool true) := by
  intro ns _
  show outD (f_law [some (.fz (nsD ns)), none, none, none, none, none, none, none]) = _
  rw [f_law_eq]
  have c0 : M__law_cell [nsD ns, .int 0] = .ok (.int (cell ns 0)) := M_cell ns 0
  have c1 : M__law_cell [nsD ns, .int 1] = .ok (.int (cell ns 1)) := M_cell ns 1
  have c2 : M__law_cell [nsD ns, .int 2] = .ok (.int (cell ns 2)) := M_cell ns 2
  obtain ⟨k, hk, hk7⟩ : ∃ k : Nat, cell ns 0 % 7 = (k : Int) ∧ k < 7 := ⟨(cell ns 0 % 7).toNat, by omega, by omega⟩
  obtain ⟨m, hm, hm5⟩ : ∃ m : Nat, cell ns 1 % 5 = (m : Int) ∧ m < 5 := ⟨(cell ns 1 % 5).toNat, by omega, by omega⟩
  obtain ⟨n, hn, hn1, hn24⟩ : ∃ n : Nat, 1 + cell ns 2 % 24 = (n : Int) ∧ 1 ≤ n ∧ n ≤ 24 := ⟨(1 + cell ns 2 % 24).toNat, by omega, by omega, by omega⟩
  have s0 : ∀ g, sSeq law_0 g [some (.fz (nsD ns)), none, none, none, none, none, none, none] = g [some (.fz (nsD ns)), some (.fz (.int (k : Nat))), none, none, none, none, none, none] := fun g => by simp [law_0, c0, hk]
  have s1 : ∀ g, sSeq law_1 g [some (.fz (nsD ns)), some (.fz (.int (k : Nat))), none, none, none, none, none, none] = g [some (.fz (nsD ns)), some (.fz (.int (k : Nat))), none, none, none, none, none, none] := fun g => by
    have : k = 0 ∨ k = 1 ∨ k = 2 ∨ k = 3 ∨ k = 4 ∨ k = 5 ∨ k = 6 := by omega
    rcases this with rfl | rfl | rfl | rfl | rfl | rfl | rfl
    · exact st1_0 ns g
    · exact st1_1 ns g
    · exact st1_2 ns g
    · exact st1_3 ns g
    · exact st1_4 ns g
    · exact st1_5 ns g
    · exact st1_6 ns g
  rw [s0, s1]
  have z2 : 2 ≤ sizeLine := size1 (by omega)
  have z1 : 1 ≤ sizeLine := size1 (by omega)
  have z3 : 3 ≤ sizeLine := size1 (by omega)
  have z4 : 4 ≤ sizeLine := size1 (by omega)
  have ma := rep_a m
  have mr := rep_a n
  have b1 : (-9223372036854775808 : Int) ≤ (m : Int) := by omega
  have b2 : (m : Int) < 9223372036854775808 := by omega
  have b3 : m ≤ sizeLine := size1 (by omega)
  have b4 : (-9223372036854775808 : Int) ≤ (n : Int) := by omega
  have b5 : (n : Int) < 9223372036854775808 := by omega
  have b6 : n ≤ sizeLine := size1 (by omega)
  obtain ⟨f1, f2, f3, f4, f5⟩ := fates_a ⟨m, hm5⟩ ⟨n - 1, by omega⟩
  have en : n - 1 + 1 = n := by omega
  dsimp only at f1 f2 f3 f4 f5
  rw [en] at f1 f2 f3 f4 f5
  have ro : ∀ {r : Ru}, 1 ≤ r.ws.length → rowOk r (List.replicate n 97) := fun h => ⟨fun c hc => by rw [List.eq_of_mem_replicate hc]; omega, by simp; omega⟩
  have fa := M_fate_eq (rA_ok (m := m) (by omega)) (ro (by simp [rA]))
  rw [fEq_ok f1] at fa
  have fg := M_grows_by_eq (rA_ok (m := m) (by omega)) (ro (by simp [rA]))
  rw [f2] at fg
  have fr := M_root_eq (rA_ok (m := m) (by omega)) (ro (by simp [rA]))
  rw [f3] at fr
  have fb := M_fate_eq (rB_ok (m := m) (by omega)) (ro (by simp [rB]))
  have eA : PyData.tuple [.int 1, .tuple [sD (List.replicate m 97)]] = rD (rA m) := rfl
  have eB : PyData.tuple [.int 2, .tuple [sD (List.replicate m 97)]] = rD (rB m) := rfl
  have rl : (S (List.replicate n 97)).length = n := by rw [S_len]; simp
  have s2 : ∀ g, sSeq law_2 (sSeq law_3 (sSeq law_4 (sSeq law_5 (sSeq law_6 g)))) [some (.fz (nsD ns)), some (.fz (.int (k : Nat))), none, none, none, none, none, none] = g [some (.fz (nsD ns)), some (.fz (.int (k : Nat))), none, some (.fz (.int (m : Nat))), some (.fz (rD (rA m))), some (.fz (sD (List.replicate n 97))), some (.fz (fD (dueF m n))), none] := fun g => by
    unfold dueF
    by_cases h2 : m < 2
    · have h2' : (m : Int) < 2 := by omega
      by_cases h1 : m = 1
      · have h1' : (m : Int) = 1 := by omega
        have h0 : ¬ m = 0 := by omega
        rw [if_neg h0, if_pos h1]
        simp [law_2, law_3, law_4, law_5, law_6, c1, c2, hm, hn, S_a12, ma, mr, z1, z2, z3, z4, eA, fD, b1, b2, b3, b4, b5, b6, h1', h2']
        have e1 : rD (rA m) = .tuple [.int 1, .tuple [.str (strRep (S [97]) 1)]] := by subst h1; rfl
        rw [e1]
      · have h0 : m = 0 := by omega
        have h1' : ¬ (m : Int) = 1 := by omega
        rw [if_pos h0]
        simp [law_2, law_3, law_4, law_5, law_6, c1, c2, hm, hn, S_a12, S_nil, ma, mr, z1, z2, z3, z4, eA, fD, rl, b1, b2, b3, b4, b5, b6, h1', h2']
    · have h2' : ¬ (m : Int) < 2 := by omega
      have h0 : ¬ m = 0 := by omega
      have h1 : ¬ m = 1 := by omega
      simp [law_2, law_3, law_4, law_5, law_6, c1, c2, hm, hn, S_a12, ma, mr, z1, z2, z3, z4, eA, fD, h2', h0, h1, b1, b2, b3, b4, b5, b6]
  rw [s2]
  have nf := fD_ne12 (dueF m n)
  have ni : ∀ i : Int, dNe (.int i) (.int i) = some (.bool false) := fun i => by simp [dNe, scalD, PyData.eqv]
  have nb : dNe (.tuple [sD [97], .int (n : Int)]) (.tuple [sD [97], .int (n : Int)]) = some (.bool false) := dNe_self _ (by simp [PyData.depth, PyData.depthAll]) (by simp [PyData.eqv, PyData.eqvAll])
  have fr : M_root [rD (rA m), sD (List.replicate n 97)] = .ok (.tuple [sD [97], .int (n : Int)]) := fr
  have fg : M_grows_by [rD (rA m), sD (List.replicate n 97)] = .ok (.int (m : Nat)) := fg
  have nm := ni (m : Nat)
  have s7 : ∀ g, sSeq law_7 (sSeq law_8 g) [some (.fz (nsD ns)), some (.fz (.int (k : Nat))), none, some (.fz (.int (m : Nat))), some (.fz (rD (rA m))), some (.fz (sD (List.replicate n 97))), some (.fz (fD (dueF m n))), none] = g [some (.fz (nsD ns)), some (.fz (.int (k : Nat))), none, some (.fz (.int (m : Nat))), some (.fz (rD (rA m))), some (.fz (sD (List.replicate n 97))), some (.fz (fD (dueF m n))), some (.fz (rD (rB m)))] := fun g => by
    generalize fD (dueF m n) = fd at fa nf
    have rl' : ((S (List.replicate n 97)).length : Int) = (n : Int) := by rw [rl]
    generalize rD (rA m) = ra at *
    have zl : (S (List.replicate n 97)).length ≤ sizeLine := by rw [rl]; exact size1 (by omega)
    simp [law_7, law_8, fa, nf, fg, nm, fr, S_a12, rl', nb, z2, z1, ma, eB, zl, b1, b2, b3]
  rw [s7]
  generalize fD (dueF m n) = fd
  by_cases h2 : m < 2
  · have h2' : (m : Int) < 2 := by omega
    have ie := f4 h2
    cases q : fateM (rB m) (List.replicate n 97) with
    | ends a l =>
      have ie : isEnds (fateM (rB m) (List.replicate n 97)) = true := ie
      rw [q] at fb ie
      have hl : l.length < 2 := by simpa [isEnds] using ie
      have hl' : (l.length : Int) < 2 := by omega
      have zl : l.length ≤ sizeLine := size1 (by omega)
      simp [law_9, h2', fb, fD, kE12, at2_12, hl', zl]
    | round a p => have ie : isEnds (fateM (rB m) (List.replicate n 97)) = true := ie; rw [q] at ie; cases ie
    | grows a p c => have ie : isEnds (fateM (rB m) (List.replicate n 97)) = true := ie; rw [q] at ie; cases ie
    | far a b => have ie : isEnds (fateM (rB m) (List.replicate n 97)) = true := ie; rw [q] at ie; cases ie
  · have h2' : ¬ (m : Int) < 2 := by omega
    have rl' : ((S (List.replicate n 97)).length : Int) = (n : Int) := by rw [rl]
    have zl : (S (List.replicate n 97)).length ≤ sizeLine := by rw [rl]; exact size1 (by omega)
    by_cases h3 : 2 < m
    · have h3' : (2 : Int) < (m : Int) := by omega
      by_cases hz : n = 1
      · have hz' : (n : Int) = 1 := by omega
        simp [law_9, law_10, law_11, law_12, h2', h3', z3, zl, hz', rl']
      · have hz' : ¬ ((n : Int) = 1) := by omega
        simp [law_9, law_10, law_11, law_12, h2', h3', z3, zl, hz', rl']
    · have h3' : ¬ (2 : Int) < (m : Int) := by omega
      have e2 : m = 2 := by omega
      have fb2 := fEq_ok (f5 e2)
      have fb2 : fateM (rB m) (List.replicate n 97) = if n - 1 = 0 then .ends 0 [97] else .round 0 1 := fb2
      rw [fb2] at fb
      by_cases hz : n = 1
      · rw [if_pos (by omega)] at fb
        have hz' : ((n : Int) = 1) := by omega
        have eq := fD_eq12 (.ends 0 [97])
        have ed : PyData.tuple [.str "ends", .int 0, sD [97]] = fD (.ends 0 [97]) := rfl
        simp [law_9, law_10, law_11, law_12, h2', h3', z3, zl, rl', hz', fb, S_a12, fD] at eq ⊢
        simp [eq]
      · rw [if_neg (by omega)] at fb
        have hz' : ¬ ((n : Int) = 1) := by omega
        have eq := fD_eq12 (.round 0 1)
        simp [law_9, law_10, law_11, law_12, h2', h3', z3, zl, rl', hz', fb, fD] at eq ⊢
        simp [eq]
end DL
namespace DL
open PySem PySem.Spec L2
theorem noList_ok {K : PySem.W.Frag} (h : noList K = true) {a : Addr} {o : Obj} (e : K.lookup a = some o) : o.cls ≠ .type "list" := by
  intro hc
  have hm : ∀ (l : List (Addr × Obj)), l.lookup a = some o → ∃ b, (b, o) ∈ l := by
    intro l
    induction l with
    | nil => intro h; cases h
    | cons p r ih =>
      obtain ⟨b, u⟩ := p
      intro h
      rw [List.lookup_cons] at h
      cases q : (a == b) with
      | true => rw [q] at h; cases h; exact ⟨b, List.mem_cons_self⟩
      | false =>
        rw [q] at h
        obtain ⟨c, hc⟩ := ih h
        exact ⟨c, List.mem_cons_of_mem _ hc⟩
  obtain ⟨b, hb⟩ := hm K e
  have := List.all_eq_true.mp h (b, o) hb
  simp only at this
  rw [hc] at this
  cases this
section
variable {K : PySem.W.Frag} {h : Heap} {mg : Str → Option Value} {fa : List He.Fa} {fn : List He.FnD}
theorem glob_str (X : K.In h) (G : h.Ns mainGlobals mg) {x z : Str} (hz : SOk z) (c : (He.Fa.str x z).ok K = true) : Glob K mg x (.str z) := by
  obtain ⟨t, e⟩ := He.str_ok X G c
  exact ⟨.str z, _, e, ⟨t, rfl⟩, fun F => .str z hz⟩
theorem glob_int (X : K.In h) (G : h.Ns mainGlobals mg) {x : Str} {i : Int} (c : (He.Fa.int x i).ok K = true) : Glob K mg x (.int i) := by
  obtain ⟨t, e⟩ := He.int_ok X G c
  exact ⟨.int i, _, e, ⟨t, rfl⟩, fun F => .int i⟩
theorem strsAre_ok : ∀ {us : List Value} {zs : List Str}, strsAre us zs = true → Vals (zs.map V.str) us
  | [], [], _ => .nil
  | .str y t :: r, z :: q, h => by
    unfold strsAre at h
    rw [Bool.and_eq_true] at h
    have e : y = z := of_decide_eq_true h.1
    subst e
    exact .cons ⟨t, rfl⟩ (strsAre_ok h.2)
theorem glob_tup (X : K.In h) (G : h.Ns mainGlobals mg) {x : Str} {zs : List Str} (hz : zs.all (fun z => decide (z.length ≤ sizeLine) && PyData.strOk z) = true) (g : (He.Fa.glo x).ok K = true) (c : tupStr x zs K = true) : Glob K mg x (.tuple (zs.map PyData.str)) := by
  unfold tupStr at c
  split at c
  · rename_i o ho
    split at c
    · rename_i its n hc hd
      rw [Bool.and_eq_true] at c
      have hv := strsAre_ok c.2
      exact ⟨.ref (He.ga K x), _, He.glo_ok X G g, rfl, fun F => .tup (.inr ⟨o, its, n, ho, hc, hd, of_decide_eq_true c.1, hv⟩) (RpAll.strs zs fun z hz' => SOk.dec (List.all_eq_true.mp hz z hz'))⟩
    · cases c
  · cases c
theorem exc_of (X : K.In h) (G : h.Ns mainGlobals mg) {x : Str} (g : (He.Fa.glo x).ok K = true) (c : (He.Fa.exc x).ok K = true) : ExcC K mg x := by
  obtain ⟨h1, h2, h3, h4⟩ := He.exc_ok c
  exact ⟨_, He.glo_ok X G g, h1, h2, h3, h4⟩
theorem exm_at (X : K.In h) (G : h.Ns mainGlobals mg) {x y : Str} {b : Bool} (g1 : (He.Fa.glo x).ok K = true) (g2 : (He.Fa.glo y).ok K = true) (e : (He.Fa.exm x y b).ok K = true) {C C2 : Addr} (m1 : mg x = some (.ref C)) (m2 : mg y = some (.ref C2)) : PySem.W.exmOne K (.ref C) (.ref C2) = some b := by
  have e1 := m1.symm.trans (He.glo_ok X G g1)
  have e2 := m2.symm.trans (He.glo_ok X G g2)
  cases e1
  cases e2
  exact He.exm_ok e
theorem excIs_ok {x : Str} (h : excIs K x = true) : L2.ExcC K (He.ga K x) := by
  unfold excIs at h
  simp only [Bool.and_eq_true, decide_eq_true_eq] at h
  obtain ⟨h1, h2, h3, h4, h5, h6, h7, h8⟩ := h
  exact ⟨He.eqO_ok h1, He.eqO_ok h2, h3, h4, He.eqO_ok h5, He.eqO_ok h6, h7, h8⟩
theorem xis_of {cs : List (Str × List Str)} {hs : List Str} (g1 : ∀ p ∈ cs, mg p.1 = some (.ref (He.ga K p.1))) (g2 : ∀ x ∈ hs, mg x = some (.ref (He.ga K x))) (c : exI cs hs K = true) : XIs K mg cs hs := by
  have key : ∀ p ∈ cs, excIs K p.1 = true ∧ kitVe K p.1 = true ∧ ∀ h ∈ hs, kitIs K p.1 h (p.2.contains h) = true := fun p hp => by
    have := List.all_eq_true.mp c p hp
    simp only [Bool.and_eq_true] at this
    exact ⟨this.1, this.2.1, List.all_eq_true.mp this.2.2⟩
  refine ⟨fun p hp C m => ?_, fun p hp h hh C C' m m' => ?_, fun p hp C m => ?_⟩
  · cases m.symm.trans (g1 p hp)
    exact excIs_ok (key p hp).1
  · cases m.symm.trans (g1 p hp)
    cases m'.symm.trans (g2 h hh)
    exact of_decide_eq_true ((key p hp).2.2 h hh)
  · cases m.symm.trans (g1 p hp)
    exact of_decide_eq_true (key p hp).2.1
/-- a def of the top: where it stands, its object -/
theorem def_of (X : K.In h) (G : h.Ns mainGlobals mg) {x : Str} {st : Stmt} {d : He.FnD} {ps : List Str} (hd : d = ⟨(x, none), x, x, defArgs st, defBody st, defScope st⟩) (c : ∃ oc od osl kV doc pm an cdv ct, K.lookup (He.fAd K d.at_) = some ⟨oc, od, .func (PySem.W.fnOf d.name d.qual d.params d.body d.scope .none kV doc pm an cdv ct), osl⟩ ∧ PySem.W.codeIn K cdv d.qual = true)
    (g : (He.Fa.glo x).ok K = true) (k : (He.Fa.keep x).ok K = true)
    (hb : ∀ (kV doc pm : Value) (an : Option Addr) (cdv ct : Value) (us : List Value), us.length = ps.length → bindArgs (PySem.W.fnOf x x (defArgs st) (defBody st) (defScope st) .none kV doc pm an cdv ct) ⟨us, []⟩ = pure (ps.zip us)) :
    ∃ f fd, Fun K x x st f fd ∧ mg x = some (.ref f) ∧ Binds K fd ps [] ∧ (∀ (s : Shared) (us : List Value), us.length = ps.length → BindsTo s fd ⟨us, []⟩ (ps.zip us)) := by
  subst hd
  obtain ⟨oc, od, osl, kV, doc, pm, an, cdv, ct, l, cc⟩ := c
  have F := fun_mk (st := st) l cc (He.keep_ok k)
  exact ⟨He.ga K x, _, F, He.glo_ok X G g, F.binds hb, fun s us hu => .of_eq (hb kV doc pm an cdv ct us hu)⟩
end
theorem cx_no {P : Program} {w : World} {H : Hp} {s : Shared} {e : Value} {s' : Shared} (h : L2.CX P w [] H s (fun _ _ _ => False) e s') : False := by
  obtain ⟨_, _, _, _, _, _, _, _, _, _, _, _, z⟩ := h
  exact z
/-- the end: walk_ofE with exceptions -/
theorem walk_ofD {l : PySem.W.OpenLaw} {n k : Nat} {q : Program} {loose : List Str} {XP : (Str → Option Value) → Heap → Prop} {YP : World → Heap → Prop} {d : DefRec} {CX : World → CXT} {x : Str}
    (hn : l.most = some n) (hn2 : n ≤ sizeLine) (hdf : d.params.defaults = []) (hr : Room k callerA)
    (F : ∀ (w : World) (mg : Str → Option Value) (fa : Addr) (h : Heap), YP w h → h.Ns mainGlobals mg → mg d.name = some (.ref fa) →
      ∃ (K : PySem.W.Frag) (fd : FuncData) (sp : Sp), K.In h ∧ (∀ (s : Shared) (u : Value), BindsTo s fd ⟨[u], []⟩ [(x, u)]) ∧
        (∀ (H : Hp) (a : Addr) (ns : List Int), ns.length ≤ n → Only H → SqL K H a (ns.map V.int) → sp [.ref a] H (fun v _ => v = .bl true) fun _ _ _ => False) ∧
        ∀ base : Heap, K.In base → base.Ns mainGlobals mg → FnOk l.prog w K mg base (CX w) k fa fd [x] sp)
    (hCX : ∀ (w : World) (H : Hp) (s : Shared) (e : Value) (s' : Shared), CX w [] H s (fun _ _ _ => False) e s' → False) :
    PySem.W.WalkO q loose XP YP l.row.toRowW d [] (fun f vs => PySem.call f vs) := by
  refine Att.attach_call hn hdf fun w s₀ s₁ mg mb fa o pm cd doc a vs ns G Y ho hd hcd hmg hobj hints hlen hg => ?_
  obtain ⟨K, fd, sp, KX, hb, hsp, hF⟩ := F w mg fa _ Y G.T.g hmg
  exact law_call KX G.T.g G.T.b G.T.builtins G.T.nolimit hg hobj hints (Nat.le_trans hlen hn2) hr hF hb (fun H hO hS => hsp H a ns hlen hO hS) fun H e s' => hCX w H s₁ e s'
/-- from the law's own «Ok» to the end's F -/
theorem law_end {P : Program} {w : World} {K : PySem.W.Frag} {mg : Str → Option Value} {x : Str} {k : Nat} {M : List D → Rs D} {fa : Addr} (nl : noList K = true) (hfa : mg x = some (.ref fa))
    (ok : ∃ fd, (∀ (s : Shared) (us : List Value), us.length = 1 → BindsTo s fd ⟨us, []⟩ ((["script"] : List Str).zip us)) ∧ ∀ base : Heap, K.In base → base.Ns mainGlobals mg → FnOk P w K mg base (L2.CX P w) k fa fd ["script"] (spD K mg 1 M))
    (true_ : ∀ ns : List Int, ns.length ≤ 63 → M [.list (ns.map PyData.int)] = .ok (.bool true)) :
    ∃ (fd : FuncData) (sp : Sp), (∀ (s : Shared) (u : Value), BindsTo s fd ⟨[u], []⟩ [("script", u)]) ∧
        (∀ (H : Hp) (a : Addr) (ns : List Int), ns.length ≤ 63 → Only H → SqL K H a (ns.map V.int) → sp [.ref a] H (fun v _ => v = .bl true) fun _ _ _ => False) ∧
        ∀ base : Heap, K.In base → base.Ns mainGlobals mg → FnOk P w K mg base (L2.CX P w) k fa fd ["script"] sp := by
  obtain ⟨fd, hb, hF⟩ := ok
  refine ⟨fd, spD K mg 1 M, fun s u => hb s [u] rfl, fun H a ns hl hO hS => ?_, hF⟩
  have r : Rd H a (.lst (ns.map V.int)) := by
    rcases hS with r | ⟨o, its, n, h1, h2, _⟩
    · exact r
    · exact absurd h2 (noList_ok nl h1)
  refine ⟨H, [.list (ns.map PyData.int)], Same.refl H, .cons (.lst r (RpAll.ints ns)) .nil, rfl, ?_⟩
  rw [true_ ns hl]
  exact fun v F' H' g r => by cases r; rfl
end DL
namespace DL
open PySem PySem.Spec L2
section
variable {P : Program} {w : World} {K : PySem.W.Frag} {mg : Str → Option Value} {base : Heap}
abbrev N__law_cell : List Str := ["script", "k"]
theorem sc__law_cell : FnScope N__law_cell ["script", "k"] (defScope s__law_cell) := ⟨rfl, rfl, rfl, by decide +kernel, rfl, by decide +kernel, by decide +kernel⟩
theorem ok__law_cell {fa : Addr} {fd : FuncData} (F : Fun K "_law_cell" "_law_cell" s__law_cell fa fd) (hm : mg "_law_cell" = some (.ref fa)) (hb : Binds K fd ["script", "k"] []) (bi : Bi mg) : Ok P w K mg base "_law_cell" 1 ["script", "k"] M__law_cell := by
  refine ok_of (N := N__law_cell) (k := 0) (f := f__law_cell) F hm hb sc__law_cell (fun ds hl => .inr rfl) fun cdv A outer s H E F0 H0 hr tk po => ?_
  have nd := sc__law_cell.nd
  exact dss_cons (by exact ds_if (by exact dt_cmp op_ltAll (ref_lt _) (by exact DE.b (by exact de_var 1)) (by exact DE.b (by exact de_callB call_len (ref_len _) (by rfl) bi.b_len (by decide +kernel) (by exact dab_cons (by exact DE.b (by exact de_var 0)) dab_nil))) (nomark _)) (by exact dss_one (by exact ds_ret (by exact de_ix (by exact DE.b (by exact de_var 0)) (by exact DE.b (by exact de_var 1))))) dss_nil) (by exact dss_one (by exact ds_ret de_int))

abbrev N_is_within : List Str := ["thing", "low", "high"]
theorem sc_is_within : FnScope N_is_within ["thing", "low", "high"] (defScope s_is_within) := ⟨rfl, rfl, rfl, by decide +kernel, rfl, by decide +kernel, by decide +kernel⟩
theorem ok_is_within {fa : Addr} {fd : FuncData} (F : Fun K "is_within" "is_within" s_is_within fa fd) (hm : mg "is_within" = some (.ref fa)) (hb : Binds K fd ["thing", "low", "high"] []) (bi : Bi mg) : Ok P w K mg base "is_within" 1 ["thing", "low", "high"] M_is_within := by
  refine ok_of (N := N_is_within) (k := 0) (f := f_is_within) F hm hb sc_is_within (fun ds hl => .inr rfl) fun cdv A outer s H E F0 H0 hr tk po => ?_
  have nd := sc_is_within.nd
  exact dss_one (by exact ds_ret (by exact de_and (by exact de_isi (T := "int") (by decide +kernel) (by decide +kernel) bi.b_isinstance bi.b_int (by exact DE.b (by exact de_var 0))) (by exact de_and (by exact de_not (by exact DE.b (by exact de_isi (T := "bool") (by decide +kernel) (by decide +kernel) bi.b_isinstance bi.b_bool (by exact DE.b (by exact de_var 0))))) (by exact de_one (by exact de_chain op_le op_le (ref_le _) (ref_le _) (by exact DE.b (by exact de_var 1)) (by exact DE.b (by exact de_var 0)) (by exact DE.b (by exact de_var 2)) (by exact pe_chain op_le op_le (by exact DE.b (by exact de_var 1)) (by exact DE.b (by exact de_var 0)) (by exact DE.b (by exact de_var 2))))))))

abbrev N_is_word : List Str := ["many", "thing", "most", "sign"]
theorem sc_is_word : FnScope N_is_word ["many", "thing", "most"] (defScope s_is_word) := ⟨rfl, rfl, rfl, by decide +kernel, rfl, by decide +kernel, by decide +kernel⟩
theorem ok_is_word {fa : Addr} {fd : FuncData} (F : Fun K "is_word" "is_word" s_is_word fa fd) (hm : mg "is_word" = some (.ref fa)) (hb : Binds K fd ["many", "thing", "most"] []) (bi : Bi mg) (gl_LETTERS : Glob K mg "LETTERS" (.str "abc")) : Ok P w K mg base "is_word" 1 ["many", "thing", "most"] M_is_word := by
  refine ok_of (N := N_is_word) (k := 0) (f := f_is_word) F hm hb sc_is_word (fun ds hl => .inr rfl) fun cdv A outer s H E F0 H0 hr tk po => ?_
  have nd := sc_is_word.nd
  exact dss_cons (by exact ds_if (by exact DW.t (by exact dw_or (by exact dt_not (by exact dt_truth (by exact DE.b (by exact de_isi (T := "str") (by decide +kernel) (by decide +kernel) bi.b_isinstance bi.b_str (by exact DE.b (by exact de_var 1)))))) (by exact dw_or1 (by exact dt_cmp op_gt (ref_gt _) (by exact DE.b (by exact de_callB call_len (ref_len _) (by rfl) bi.b_len (by decide +kernel) (by exact dab_cons (by exact DE.b (by exact de_var 1)) dab_nil))) (by exact DE.b (by exact de_var 2)) (nomark _))))) (by exact dss_one (by exact ds_ret de_bool)) dss_nil) (by exact dss_one (by exact ds_ret (by exact de_not (by exact DE.b (by exact DN.e (by exact dn_lc (own := [("sign", 3)]) (t := (gName 3)) rfl nd (by exact di_seq (by exact de_var 1)) (blkOk_by (N := N_is_word) (sc := defScope s_is_word) (by decide +kernel)) (fun _ _ _ _ _ => by exact pg_name (i := 3) nd rfl (Or.inl rfl)) (tgtC_name (by decide)) (fun _ _ _ _ _ => by exact dts_one (by exact dt_cmp op_notInAll (ref_notin _) (by exact DE.b (by exact de_var 3)) (by exact DE.b (by exact de_slice (by exact DE.b (by exact de_glob gl_LETTERS)) do_none (by exact do_some (by exact DE.b (by exact de_var 0))))) rfl)) (fun _ _ _ _ _ => by exact de_var 3)))))))

abbrev N_is_rules : List Str := ["thing", "one"]
theorem sc_is_rules : FnScope N_is_rules ["thing"] (defScope s_is_rules) := ⟨rfl, rfl, rfl, by decide +kernel, rfl, by decide +kernel, by decide +kernel⟩
theorem ok_is_rules {fa : Addr} {fd : FuncData} (F : Fun K "is_rules" "is_rules" s_is_rules fa fd) (hm : mg "is_rules" = some (.ref fa)) (hb : Binds K fd ["thing"] []) (bi : Bi mg) (gl_MOST_CUT : Glob K mg "MOST_CUT" (.int 3)) (gl_LETTERS : Glob K mg "LETTERS" (.str "abc")) (gl_MOST_WORD : Glob K mg "MOST_WORD" (.int 4)) (h_is_within : Ok P w K mg base "is_within" 1 ["thing", "low", "high"] M_is_within) (h_is_word : Ok P w K mg base "is_word" 1 ["many", "thing", "most"] M_is_word) : Ok P w K mg base "is_rules" 2 ["thing"] M_is_rules := by
  refine ok_of (N := N_is_rules) (k := 1) (f := f_is_rules) F hm hb sc_is_rules (fun ds hl => .inr rfl) fun cdv A outer s H E F0 H0 hr tk po => ?_
  have nd := sc_is_rules.nd
  exact dss_cons (by exact ds_if (by exact DW.t (by exact dw_or (by exact dt_not (by exact dt_truth (by exact DE.b (by exact de_isi (T := "tuple") (by decide +kernel) (by decide +kernel) bi.b_isinstance bi.b_tuple (by exact DE.b (by exact de_var 0)))))) (by exact dw_or (by exact dt_cmp (op_neAll (by exact hr.units)) (ref_ne _) (by exact DE.b (by exact de_callB call_len (ref_len _) (by rfl) bi.b_len (by decide +kernel) (by exact dab_cons (by exact DE.b (by exact de_var 0)) dab_nil))) (by exact DE.b de_int) (nomark _)) (by exact dw_or1 (by exact dt_not (by exact dt_truth (by exact DE.b (by exact de_call h_is_within (by exact hr.mono (by decide)) tk (by exact da_cons (by exact de_ix (by exact DE.b (by exact de_var 0)) (by exact DE.b de_int)) (by exact da_cons de_int (by exact da_cons (by exact de_glob gl_MOST_CUT) da_nil))))))))))) (by exact dss_one (by exact ds_ret de_bool)) dss_nil) (by exact dss_cons (by exact ds_if (by exact DW.t (by exact dw_or (by exact dt_not (by exact dt_truth (by exact DE.b (by exact de_isi (T := "tuple") (by decide +kernel) (by decide +kernel) bi.b_isinstance bi.b_tuple (by exact DE.b (by exact de_ix (by exact DE.b (by exact de_var 0)) (by exact DE.b de_int))))))) (by exact dw_or1 (by exact dt_not (by exact dt_chain op_le op_le (ref_le _) (ref_le _) (by exact DE.b de_int) (by exact DE.b (by exact de_callB call_len (ref_len _) (by rfl) bi.b_len (by decide +kernel) (by exact dab_cons (by exact DE.b (by exact de_ix (by exact DE.b (by exact de_var 0)) (by exact DE.b de_int))) dab_nil))) (by exact DE.b (by exact de_callB call_len (ref_len _) (by rfl) bi.b_len (by decide +kernel) (by exact dab_cons (by exact DE.b (by exact de_glob gl_LETTERS)) dab_nil))) (by exact pt_chain op_le op_le (by exact DE.b de_int) (by exact DE.b (by exact de_callB call_len (ref_len _) (by rfl) bi.b_len (by decide +kernel) (by exact dab_cons (by exact DE.b (by exact de_ix (by exact DE.b (by exact de_var 0)) (by exact DE.b de_int))) dab_nil))) (by exact DE.b (by exact de_callB call_len (ref_len _) (by rfl) bi.b_len (by decide +kernel) (by exact dab_cons (by exact DE.b (by exact de_glob gl_LETTERS)) dab_nil))))))))) (by exact dss_one (by exact ds_ret de_bool)) dss_nil) (by exact dss_one (by exact ds_ret (by exact de_not (by exact DE.b (by exact DN.e (by exact dn_lc (own := [("one", 1)]) (t := (gName 1)) rfl nd (by exact di_seq (by exact de_ix (by exact DE.b (by exact de_var 0)) (by exact DE.b de_int))) (blkOk_by (N := N_is_rules) (sc := defScope s_is_rules) (by decide +kernel)) (fun _ _ _ _ _ => by exact pg_name (i := 1) nd rfl (Or.inl rfl)) (tgtC_name (by decide)) (fun _ _ _ _ _ => by exact dts_one (by exact DW.t (by exact dw_and (by exact dt_cmp op_isNotAll (ref_isnot _) (by exact DE.b (by exact de_var 1)) (by exact DE.b de_none) (nomark _)) (by exact dw_and1 (by exact dt_not (by exact dt_truth (by exact DE.b (by exact de_call h_is_word (by exact hr.mono (by decide)) takes0 (by exact da_cons (by exact de_callB call_len (ref_len _) (by rfl) bi.b_len (by decide +kernel) (by exact dab_cons (by exact DE.b (by exact de_ix (by exact DE.b (by exact de_var 0)) (by exact DE.b de_int))) dab_nil)) (by exact da_cons (by exact de_var 1) (by exact da_cons (by exact de_glob gl_MOST_WORD) da_nil))))))))))) (fun _ _ _ _ _ => by exact de_var 1))))))))

abbrev N_look : List Str := ["rules"]
theorem sc_look : FnScope N_look ["rules"] (defScope s_look) := ⟨rfl, rfl, rfl, by decide +kernel, rfl, by decide +kernel, by decide +kernel⟩
theorem ok_look {fa : Addr} {fd : FuncData} (F : Fun K "look" "look" s_look fa fd) (hm : mg "look" = some (.ref fa)) (hb : Binds K fd ["rules"] []) (bi : Bi mg) (x_BadRules : ExcC K mg "BadRules") (h_is_rules : Ok P w K mg base "is_rules" 2 ["thing"] M_is_rules) : Ok P w K mg base "look" 3 ["rules"] M_look := by
  refine ok_of (N := N_look) (k := 2) (f := f_look) F hm hb sc_look (fun ds hl => .inr rfl) fun cdv A outer s H E F0 H0 hr tk po => ?_
  have nd := sc_look.nd
  exact dss_one (by exact ds_if (by exact dt_not (by exact dt_truth (by exact DE.b (by exact de_call h_is_rules (by exact hr.mono (by decide)) tk (by exact da_cons (by exact de_var 0) da_nil))))) (by exact dss_one (by exact ds_raise rfl tk x_BadRules)) dss_nil)

abbrev N_shown : List Str := ["rules", "rows", "letter", "word"]
theorem sc_shown : FnScope N_shown ["rules"] (defScope s_shown) := ⟨rfl, rfl, rfl, by decide +kernel, rfl, by decide +kernel, by decide +kernel⟩
theorem ok_shown {fa : Addr} {fd : FuncData} (F : Fun K "shown" "shown" s_shown fa fd) (hm : mg "shown" = some (.ref fa)) (hb : Binds K fd ["rules"] []) (bi : Bi mg) (gl_LETTERS : Glob K mg "LETTERS" (.str "abc")) (h_look : Ok P w K mg base "look" 3 ["rules"] M_look) : Ok P w K mg base "shown" 4 ["rules"] M_shown := by
  refine ok_of (N := N_shown) (k := 3) (f := f_shown) F hm hb sc_shown (fun ds hl => .inr rfl) fun cdv A outer s H E F0 H0 hr tk po => ?_
  have nd := sc_shown.nd
  exact dss_cons (by exact ds_expr (by exact de_call h_look (by exact hr.mono (by decide)) tk (by exact da_cons (by exact de_var 0) da_nil))) (by exact dss_cons (by exact ds_own (i := 1) nd (by exact dn_lst (by exact da_cons (by exact de_callTy call_str_int (ref_str _) (by rfl) bi.b_str (by decide +kernel) (by exact dab_cons (by exact DE.b (by exact de_ix (by exact DE.b (by exact de_var 0)) (by exact DE.b de_int))) dab_nil)) da_nil))) (by exact dss_cons (by exact ds_for po rfl (by exact di_zip2 bi.b_zip (by exact da_cons (by exact de_glob gl_LETTERS) (by exact da_cons (by exact de_ix (by exact DE.b (by exact de_var 0)) (by exact DE.b de_int)) da_nil))) (pg_tup rfl (pgs_cons (pg_name (i := 2) nd rfl (Or.inl rfl)) (pgs_cons (pg_name (i := 3) nd rfl (Or.inl rfl)) pgs_nil))) (tgt_two 2 3) (fun _ => by exact dss_one (by exact ds_app (i := 1) (by exact de_op op_addAll (ref_add _) (by exact DE.b (by exact de_op op_addAll (ref_add _) (by exact DE.b (by exact de_var 2)) (by exact DE.b de_str))) (by exact DE.b (by exact de_if (by exact dt_cmp op_isAll (ref_is _) (by exact DE.b (by exact de_var 3)) (by exact DE.b de_none) (nomark _)) de_str (by exact de_var 3))))))) (by exact dss_one (by exact ds_ret (by exact de_m (.inl rfl) PySem.F.plainAttrs_str PySem.F.slot_str_join PySem.F.type_str_join mt_join (ref_join _) (by exact DE.b de_str) (by exact dab_cons (by exact db_var 1) dab_nil))))))

abbrev N_is_row : List Str := ["rules", "thing"]
theorem sc_is_row : FnScope N_is_row ["rules", "thing"] (defScope s_is_row) := ⟨rfl, rfl, rfl, by decide +kernel, rfl, by decide +kernel, by decide +kernel⟩
theorem ok_is_row {fa : Addr} {fd : FuncData} (F : Fun K "is_row" "is_row" s_is_row fa fd) (hm : mg "is_row" = some (.ref fa)) (hb : Binds K fd ["rules", "thing"] []) (bi : Bi mg) (gl_MOST_ROW : Glob K mg "MOST_ROW" (.int 24)) (h_is_word : Ok P w K mg base "is_word" 1 ["many", "thing", "most"] M_is_word) : Ok P w K mg base "is_row" 2 ["rules", "thing"] M_is_row := by
  refine ok_of (N := N_is_row) (k := 1) (f := f_is_row) F hm hb sc_is_row (fun ds hl => .inr rfl) fun cdv A outer s H E F0 H0 hr tk po => ?_
  have nd := sc_is_row.nd
  exact dss_one (by exact ds_ret (by exact de_call h_is_word (by exact hr.mono (by decide)) tk (by exact da_cons (by exact de_callB call_len (ref_len _) (by rfl) bi.b_len (by decide +kernel) (by exact dab_cons (by exact DE.b (by exact de_ix (by exact DE.b (by exact de_var 0)) (by exact DE.b de_int))) dab_nil)) (by exact da_cons (by exact de_var 1) (by exact da_cons (by exact de_glob gl_MOST_ROW) da_nil)))))

abbrev N_look_row : List Str := ["rules", "row"]
theorem sc_look_row : FnScope N_look_row ["rules", "row"] (defScope s_look_row) := ⟨rfl, rfl, rfl, by decide +kernel, rfl, by decide +kernel, by decide +kernel⟩
theorem ok_look_row {fa : Addr} {fd : FuncData} (F : Fun K "look_row" "look_row" s_look_row fa fd) (hm : mg "look_row" = some (.ref fa)) (hb : Binds K fd ["rules", "row"] []) (bi : Bi mg) (x_BadRow : ExcC K mg "BadRow") (h_look : Ok P w K mg base "look" 3 ["rules"] M_look) (h_is_row : Ok P w K mg base "is_row" 2 ["rules", "thing"] M_is_row) : Ok P w K mg base "look_row" 4 ["rules", "row"] M_look_row := by
  refine ok_of (N := N_look_row) (k := 3) (f := f_look_row) F hm hb sc_look_row (fun ds hl => .inr rfl) fun cdv A outer s H E F0 H0 hr tk po => ?_
  have nd := sc_look_row.nd
  exact dss_cons (by exact ds_expr (by exact de_call h_look (by exact hr.mono (by decide)) tk (by exact da_cons (by exact de_var 0) da_nil))) (by exact dss_one (by exact ds_if (by exact dt_not (by exact dt_truth (by exact DE.b (by exact de_call h_is_row (by exact hr.mono (by decide)) tk (by exact da_cons (by exact de_var 0) (by exact da_cons (by exact de_var 1) da_nil)))))) (by exact dss_one (by exact ds_raise rfl tk x_BadRow)) dss_nil))

abbrev N_word_of : List Str := ["rules", "letter"]
theorem sc_word_of : FnScope N_word_of ["rules", "letter"] (defScope s_word_of) := ⟨rfl, rfl, rfl, by decide +kernel, rfl, by decide +kernel, by decide +kernel⟩
theorem ok_word_of {fa : Addr} {fd : FuncData} (F : Fun K "word_of" "word_of" s_word_of fa fd) (hm : mg "word_of" = some (.ref fa)) (hb : Binds K fd ["rules", "letter"] []) (bi : Bi mg) (gl_LETTERS : Glob K mg "LETTERS" (.str "abc")) : Ok P w K mg base "word_of" 1 ["rules", "letter"] M_word_of := by
  refine ok_of (N := N_word_of) (k := 0) (f := f_word_of) F hm hb sc_word_of (fun ds hl => .inr rfl) fun cdv A outer s H E F0 H0 hr tk po => ?_
  have nd := sc_word_of.nd
  exact dss_one (by exact ds_ret (by exact de_ix (by exact DE.b (by exact de_ix (by exact DE.b (by exact de_var 0)) (by exact DE.b de_int))) (by exact DE.b (by exact de_m (.inl rfl) PySem.F.plainAttrs_str PySem.F.slot_str_index PySem.F.type_str_index mt_sindex (ref_sidx _) (by exact DE.b (by exact de_glob gl_LETTERS)) (by exact dab_cons (by exact DE.b (by exact de_var 1)) dab_nil)))))

abbrev N_has_ended : List Str := ["rules", "row"]
theorem sc_has_ended : FnScope N_has_ended ["rules", "row"] (defScope s_has_ended) := ⟨rfl, rfl, rfl, by decide +kernel, rfl, by decide +kernel, by decide +kernel⟩
theorem ok_has_ended {fa : Addr} {fd : FuncData} (F : Fun K "has_ended" "has_ended" s_has_ended fa fd) (hm : mg "has_ended" = some (.ref fa)) (hb : Binds K fd ["rules", "row"] []) (bi : Bi mg) (h_word_of : Ok P w K mg base "word_of" 1 ["rules", "letter"] M_word_of) : Ok P w K mg base "has_ended" 2 ["rules", "row"] M_has_ended := by
  refine ok_of (N := N_has_ended) (k := 1) (f := f_has_ended) F hm hb sc_has_ended (fun ds hl => .inr rfl) fun cdv A outer s H E F0 H0 hr tk po => ?_
  have nd := sc_has_ended.nd
  exact dss_one (by exact ds_ret (by exact de_or (by exact de_cmp op_ltAll (ref_lt _) (by exact DE.b (by exact de_callB call_len (ref_len _) (by rfl) bi.b_len (by decide +kernel) (by exact dab_cons (by exact DE.b (by exact de_var 1)) dab_nil))) (by exact DE.b (by exact de_ix (by exact DE.b (by exact de_var 0)) (by exact DE.b de_int))) (nomark _)) (by exact de_one (by exact de_cmp op_isAll (ref_is _) (by exact DE.b (by exact de_call h_word_of (by exact hr.mono (by decide)) tk (by exact da_cons (by exact de_var 0) (by exact da_cons (by exact de_ix (by exact DE.b (by exact de_var 1)) (by exact DE.b de_int)) da_nil)))) (by exact DE.b de_none) (nomark _)))))

abbrev N_times_of : List Str := ["part", "word"]
theorem sc_times_of : FnScope N_times_of ["part", "word"] (defScope s_times_of) := ⟨rfl, rfl, rfl, by decide +kernel, rfl, by decide +kernel, by decide +kernel⟩
theorem ok_times_of {fa : Addr} {fd : FuncData} (F : Fun K "times_of" "times_of" s_times_of fa fd) (hm : mg "times_of" = some (.ref fa)) (hb : Binds K fd ["part", "word"] []) (bi : Bi mg) : Ok P w K mg base "times_of" 1 ["part", "word"] M_times_of := by
  refine ok_of (N := N_times_of) (k := 0) (f := f_times_of) F hm hb sc_times_of (fun ds hl => .inr rfl) fun cdv A outer s H E F0 H0 hr tk po => ?_
  have nd := sc_times_of.nd
  exact dss_cons (by exact ds_if (by exact DW.t (by exact dw_or (by exact dt_cmp op_gt (ref_gt _) (by exact DE.b (by exact de_op op_mod (ref_mod _) (by exact DE.b (by exact de_callB call_len (ref_len _) (by rfl) bi.b_len (by decide +kernel) (by exact dab_cons (by exact DE.b (by exact de_var 1)) dab_nil))) (by exact DE.b (by exact de_callB call_len (ref_len _) (by rfl) bi.b_len (by decide +kernel) (by exact dab_cons (by exact DE.b (by exact de_var 0)) dab_nil))))) (by exact DE.b de_int) (nomark _)) (by exact dw_or1 (by exact dt_cmp (op_neAll (by exact hr.units)) (ref_ne _) (by exact DE.b (by exact de_op op_mulAll (ref_mul _) (by exact DE.b (by exact de_var 0)) (by exact DE.b (by exact de_op op_fdiv (ref_div _) (by exact DE.b (by exact de_callB call_len (ref_len _) (by rfl) bi.b_len (by decide +kernel) (by exact dab_cons (by exact DE.b (by exact de_var 1)) dab_nil))) (by exact DE.b (by exact de_callB call_len (ref_len _) (by rfl) bi.b_len (by decide +kernel) (by exact dab_cons (by exact DE.b (by exact de_var 0)) dab_nil))))))) (by exact DE.b (by exact de_var 1)) (nomark _))))) (by exact dss_one (by exact ds_ret de_none)) dss_nil) (by exact dss_one (by exact ds_ret (by exact de_op op_fdiv (ref_div _) (by exact DE.b (by exact de_callB call_len (ref_len _) (by rfl) bi.b_len (by decide +kernel) (by exact dab_cons (by exact DE.b (by exact de_var 1)) dab_nil))) (by exact DE.b (by exact de_callB call_len (ref_len _) (by rfl) bi.b_len (by decide +kernel) (by exact dab_cons (by exact DE.b (by exact de_var 0)) dab_nil))))))

abbrev N_told_of : List Str := ["rules", "word", "letter"]
theorem sc_told_of : FnScope N_told_of ["rules", "word"] (defScope s_told_of) := ⟨rfl, rfl, rfl, by decide +kernel, rfl, by decide +kernel, by decide +kernel⟩
theorem ok_told_of {fa : Addr} {fd : FuncData} (F : Fun K "told_of" "told_of" s_told_of fa fd) (hm : mg "told_of" = some (.ref fa)) (hb : Binds K fd ["rules", "word"] []) (bi : Bi mg) (h_word_of : Ok P w K mg base "word_of" 1 ["rules", "letter"] M_word_of) : Ok P w K mg base "told_of" 2 ["rules", "word"] M_told_of := by
  refine ok_of (N := N_told_of) (k := 1) (f := f_told_of) F hm hb sc_told_of (fun ds hl => .inr rfl) fun cdv A outer s H E F0 H0 hr tk po => ?_
  have nd := sc_told_of.nd
  exact dss_one (by exact ds_ret (by exact de_m (.inl rfl) PySem.F.plainAttrs_str PySem.F.slot_str_join PySem.F.type_str_join mt_join (ref_join _) (by exact DE.b de_str) (by exact dab_cons (by exact DE.b (by exact DN.e (by exact dn_lc (own := [("letter", 2)]) (t := (gName 2)) rfl nd (by exact di_seq (by exact de_step (by exact DE.b (by exact de_var 1)) (by exact DE.b (by exact de_ix (by exact DE.b (by exact de_var 0)) (by exact DE.b de_int))))) (blkOk_by (N := N_told_of) (sc := defScope s_told_of) (by decide +kernel)) (fun _ _ _ _ _ => by exact pg_name (i := 2) nd rfl (Or.inl rfl)) (tgtC_name (by decide)) (fun _ _ _ _ _ => by exact dts_nil) (fun _ _ _ _ _ => by exact de_call h_word_of (by exact hr.mono (by decide)) takes0 (by exact da_cons (by exact de_var 0) (by exact da_cons (by exact de_var 2) da_nil)))))) dab_nil)))

abbrev N_is_whole : List Str := ["rules", "word", "letter"]
theorem sc_is_whole : FnScope N_is_whole ["rules", "word"] (defScope s_is_whole) := ⟨rfl, rfl, rfl, by decide +kernel, rfl, by decide +kernel, by decide +kernel⟩
theorem ok_is_whole {fa : Addr} {fd : FuncData} (F : Fun K "is_whole" "is_whole" s_is_whole fa fd) (hm : mg "is_whole" = some (.ref fa)) (hb : Binds K fd ["rules", "word"] []) (bi : Bi mg) (h_word_of : Ok P w K mg base "word_of" 1 ["rules", "letter"] M_word_of) : Ok P w K mg base "is_whole" 2 ["rules", "word"] M_is_whole := by
  refine ok_of (N := N_is_whole) (k := 1) (f := f_is_whole) F hm hb sc_is_whole (fun ds hl => .inr rfl) fun cdv A outer s H E F0 H0 hr tk po => ?_
  have nd := sc_is_whole.nd
  exact dss_cons (by exact ds_if (by exact dt_cmp op_gt (ref_gt _) (by exact DE.b (by exact de_op op_mod (ref_mod _) (by exact DE.b (by exact de_callB call_len (ref_len _) (by rfl) bi.b_len (by decide +kernel) (by exact dab_cons (by exact DE.b (by exact de_var 1)) dab_nil))) (by exact DE.b (by exact de_ix (by exact DE.b (by exact de_var 0)) (by exact DE.b de_int))))) (by exact DE.b de_int) (nomark _)) (by exact dss_one (by exact ds_ret de_bool)) dss_nil) (by exact dss_one (by exact ds_ret (by exact de_not (by exact DE.b (by exact DN.e (by exact dn_lc (own := [("letter", 2)]) (t := (gName 2)) rfl nd (by exact di_seq (by exact de_step (by exact DE.b (by exact de_var 1)) (by exact DE.b (by exact de_ix (by exact DE.b (by exact de_var 0)) (by exact DE.b de_int))))) (blkOk_by (N := N_is_whole) (sc := defScope s_is_whole) (by decide +kernel)) (fun _ _ _ _ _ => by exact pg_name (i := 2) nd rfl (Or.inl rfl)) (tgtC_name (by decide)) (fun _ _ _ _ _ => by exact dts_one (by exact dt_cmp op_isAll (ref_is _) (by exact DE.b (by exact de_call h_word_of (by exact hr.mono (by decide)) takes0 (by exact da_cons (by exact de_var 0) (by exact da_cons (by exact de_var 2) da_nil)))) (by exact DE.b de_none) (nomark _))) (fun _ _ _ _ _ => by exact de_var 2)))))))

abbrev N_share : List Str := ["rules", "part"]
theorem sc_share : FnScope N_share ["rules", "part"] (defScope s_share) := ⟨rfl, rfl, rfl, by decide +kernel, rfl, by decide +kernel, by decide +kernel⟩
theorem ok_share {fa : Addr} {fd : FuncData} (F : Fun K "share" "share" s_share fa fd) (hm : mg "share" = some (.ref fa)) (hb : Binds K fd ["rules", "part"] []) (bi : Bi mg) (h_is_whole : Ok P w K mg base "is_whole" 2 ["rules", "word"] M_is_whole) (h_times_of : Ok P w K mg base "times_of" 1 ["part", "word"] M_times_of) (h_told_of : Ok P w K mg base "told_of" 2 ["rules", "word"] M_told_of) : Ok P w K mg base "share" 3 ["rules", "part"] M_share := by
  refine ok_of (N := N_share) (k := 2) (f := f_share) F hm hb sc_share (fun ds hl => .inr rfl) fun cdv A outer s H E F0 H0 hr tk po => ?_
  have nd := sc_share.nd
  exact dss_cons (by exact ds_if (by exact DW.t (by exact dw_or (by exact dt_cmp (op_eqAll (by exact hr.units)) (ref_eq _) (by exact DE.b (by exact de_var 1)) (by exact DE.b de_str) (nomark _)) (by exact dw_or1 (by exact dt_not (by exact dt_truth (by exact DE.b (by exact de_call h_is_whole (by exact hr.mono (by decide)) tk (by exact da_cons (by exact de_var 0) (by exact da_cons (by exact de_var 1) da_nil))))))))) (by exact dss_one (by exact ds_ret de_none)) dss_nil) (by exact dss_one (by exact ds_ret (by exact de_call h_times_of (by exact hr.mono (by decide)) tk (by exact da_cons (by exact de_var 1) (by exact da_cons (by exact de_call h_told_of (by exact hr.mono (by decide)) tk (by exact da_cons (by exact de_var 0) (by exact da_cons (by exact de_var 1) da_nil))) da_nil)))))

abbrev N_part_of : List Str := ["rules", "row", "long", "many"]
theorem sc_part_of : FnScope N_part_of ["rules", "row"] (defScope s_part_of) := ⟨rfl, rfl, rfl, by decide +kernel, rfl, by decide +kernel, by decide +kernel⟩
theorem ok_part_of {fa : Addr} {fd : FuncData} (F : Fun K "part_of" "part_of" s_part_of fa fd) (hm : mg "part_of" = some (.ref fa)) (hb : Binds K fd ["rules", "row"] []) (bi : Bi mg) (h_times_of : Ok P w K mg base "times_of" 1 ["part", "word"] M_times_of) (h_share : Ok P w K mg base "share" 3 ["rules", "part"] M_share) : Ok P w K mg base "part_of" 4 ["rules", "row"] M_part_of := by
  refine ok_of (N := N_part_of) (k := 3) (f := f_part_of) F hm hb sc_part_of (fun ds hl => .inr rfl) fun cdv A outer s H E F0 H0 hr tk po => ?_
  have nd := sc_part_of.nd
  exact dss_cons (by exact ds_forN (i := 2) nd po rfl (by exact di_range2 bi.b_range (by exact dab_cons (by exact DE.b de_int) (by exact dab_cons (by exact DE.b (by exact de_op op_addAll (ref_add _) (by exact DE.b (by exact de_callB call_len (ref_len _) (by rfl) bi.b_len (by decide +kernel) (by exact dab_cons (by exact DE.b (by exact de_var 1)) dab_nil))) (by exact DE.b de_int))) dab_nil))) (fun _ => by exact dss_one (by exact ds_if (by exact dt_cmp op_isNotAll (ref_isnot _) (by exact DE.b (by exact de_call h_times_of (by exact hr.mono (by decide)) tk (by exact da_cons (by exact de_slice (by exact DE.b (by exact de_var 1)) do_none (by exact do_some (by exact DE.b (by exact de_var 2)))) (by exact da_cons (by exact de_var 1) da_nil)))) (by exact DE.b de_none) (nomark _)) (by exact dss_cons (by exact ds_asg (i := 3) nd (by exact de_call h_share (by exact hr.mono (by decide)) tk (by exact da_cons (by exact de_var 0) (by exact da_cons (by exact de_slice (by exact DE.b (by exact de_var 1)) do_none (by exact do_some (by exact DE.b (by exact de_var 2)))) da_nil)))) (by exact dss_one (by exact ds_if (by exact dt_cmp op_isNotAll (ref_isnot _) (by exact DE.b (by exact de_var 3)) (by exact DE.b de_none) (nomark _)) (by exact dss_one (by exact ds_ret (by exact de_tup (by exact da_cons (by exact de_slice (by exact DE.b (by exact de_var 1)) do_none (by exact do_some (by exact DE.b (by exact de_var 2)))) (by exact da_cons (by exact de_var 3) da_nil))))) dss_nil))) dss_nil))) (by exact dss_one (by exact ds_ret de_none))

abbrev N_next_of : List Str := ["rules", "row"]
theorem sc_next_of : FnScope N_next_of ["rules", "row"] (defScope s_next_of) := ⟨rfl, rfl, rfl, by decide +kernel, rfl, by decide +kernel, by decide +kernel⟩
theorem ok_next_of {fa : Addr} {fd : FuncData} (F : Fun K "next_of" "next_of" s_next_of fa fd) (hm : mg "next_of" = some (.ref fa)) (hb : Binds K fd ["rules", "row"] []) (bi : Bi mg) (h_word_of : Ok P w K mg base "word_of" 1 ["rules", "letter"] M_word_of) : Ok P w K mg base "next_of" 2 ["rules", "row"] M_next_of := by
  refine ok_of (N := N_next_of) (k := 1) (f := f_next_of) F hm hb sc_next_of (fun ds hl => .inr rfl) fun cdv A outer s H E F0 H0 hr tk po => ?_
  have nd := sc_next_of.nd
  exact dss_one (by exact ds_ret (by exact de_op op_addAll (ref_add _) (by exact DE.b (by exact de_slice (by exact DE.b (by exact de_var 1)) (by exact do_some (by exact DE.b (by exact de_ix (by exact DE.b (by exact de_var 0)) (by exact DE.b de_int)))) do_none)) (by exact DE.b (by exact de_call h_word_of (by exact hr.mono (by decide)) tk (by exact da_cons (by exact de_var 0) (by exact da_cons (by exact de_ix (by exact DE.b (by exact de_var 1)) (by exact DE.b de_int)) da_nil))))))

abbrev N_fate_of : List Str := ["rules", "row", "seen", "many", "found"]
theorem sc_fate_of : FnScope N_fate_of ["rules", "row"] (defScope s_fate_of) := ⟨rfl, rfl, rfl, by decide +kernel, rfl, by decide +kernel, by decide +kernel⟩
theorem ok_fate_of {fa : Addr} {fd : FuncData} (F : Fun K "fate_of" "fate_of" s_fate_of fa fd) (hm : mg "fate_of" = some (.ref fa)) (hb : Binds K fd ["rules", "row"] []) (bi : Bi mg) (gl_MOST_CUTS : Glob K mg "MOST_CUTS" (.int 200)) (gl_MOST_LONG : Glob K mg "MOST_LONG" (.int 120)) (h_has_ended : Ok P w K mg base "has_ended" 2 ["rules", "row"] M_has_ended) (h_part_of : Ok P w K mg base "part_of" 4 ["rules", "row"] M_part_of) (h_next_of : Ok P w K mg base "next_of" 2 ["rules", "row"] M_next_of) : Ok P w K mg base "fate_of" 5 ["rules", "row"] M_fate_of := by
  refine ok_of (N := N_fate_of) (k := 4) (f := f_fate_of) F hm hb sc_fate_of (fun ds hl => .inr rfl) fun cdv A outer s H E F0 H0 hr tk po => ?_
  have nd := sc_fate_of.nd
  exact dss_cons (by exact ds_newK (i := 2) nd) (by exact dss_cons (by exact ds_asg (i := 3) nd de_int) (by exact dss_cons (by exact ds_while po (by exact DW.t (by exact dw_and (by exact dt_cmp op_le (ref_le _) (by exact DE.b (by exact de_var 3)) (by exact DE.b (by exact de_glob gl_MOST_CUTS)) (nomark _)) (by exact dw_and1 (by exact dt_cmp op_le (ref_le _) (by exact DE.b (by exact de_callB call_len (ref_len _) (by rfl) bi.b_len (by decide +kernel) (by exact dab_cons (by exact DE.b (by exact de_var 1)) dab_nil))) (by exact DE.b (by exact de_glob gl_MOST_LONG)) (nomark _))))) (by exact dss_cons (by exact ds_if (by exact dt_truth (by exact DE.b (by exact de_call h_has_ended (by exact hr.mono (by decide)) tk (by exact da_cons (by exact de_var 0) (by exact da_cons (by exact de_var 1) da_nil))))) (by exact dss_one (by exact ds_ret (by exact de_tup (by exact da_cons de_str (by exact da_cons (by exact de_var 3) (by exact da_cons (by exact de_var 1) da_nil)))))) dss_nil) (by exact dss_cons (by exact ds_if (by exact dt_inK (i := 2) (by exact hu_of hr) (by exact de_var 1)) (by exact dss_one (by exact ds_ret (by exact de_tup (by exact da_cons de_str (by exact da_cons (by exact de_getK (i := 2) (by exact hu_of hr) (by exact de_var 1)) (by exact da_cons (by exact de_op op_sub (ref_sub _) (by exact DE.b (by exact de_var 3)) (by exact DE.b (by exact de_getK (i := 2) (by exact hu_of hr) (by exact de_var 1)))) da_nil)))))) dss_nil) (by exact dss_cons (by exact ds_asg (i := 4) nd (by exact de_call h_part_of (by exact hr.mono (by decide)) tk (by exact da_cons (by exact de_var 0) (by exact da_cons (by exact de_var 1) da_nil)))) (by exact dss_cons (by exact ds_if (by exact DW.t (by exact dw_and (by exact dt_cmp op_isNotAll (ref_isnot _) (by exact DE.b (by exact de_var 4)) (by exact DE.b de_none) (nomark _)) (by exact dw_and1 (by exact dt_cmp op_gt (ref_gt _) (by exact DE.b (by exact de_ix (by exact DE.b (by exact de_var 4)) (by exact DE.b de_int))) (by exact DE.b de_int) (nomark _))))) (by exact dss_one (by exact ds_ret (by exact de_tup (by exact da_cons de_str (by exact da_cons (by exact de_var 3) (by exact da_cons (by exact de_ix (by exact DE.b (by exact de_var 4)) (by exact DE.b de_int)) (by exact da_cons (by exact de_ix (by exact DE.b (by exact de_var 4)) (by exact DE.b de_int)) da_nil))))))) dss_nil) (by exact dss_cons (by exact ds_putK (i := 2) (by exact hu_of hr) (by exact de_var 1) (by exact de_var 3)) (by exact dss_cons (by exact ds_asg (i := 1) nd (by exact de_call h_next_of (by exact hr.mono (by decide)) tk (by exact da_cons (by exact de_var 0) (by exact da_cons (by exact de_var 1) da_nil)))) (by exact dss_one (by exact ds_aug (i := 3) iop_add (ref_addI _) nd (by exact DE.b de_int)))))))))) (by exact dss_one (by exact ds_ret (by exact de_tup (by exact da_cons de_str (by exact da_cons (by exact de_var 3) (by exact da_cons (by exact de_callB call_len (ref_len _) (by rfl) bi.b_len (by decide +kernel) (by exact dab_cons (by exact DE.b (by exact de_var 1)) dab_nil)) da_nil))))))))

abbrev N_fate : List Str := ["rules", "row"]
theorem sc_fate : FnScope N_fate ["rules", "row"] (defScope s_fate) := ⟨rfl, rfl, rfl, by decide +kernel, rfl, by decide +kernel, by decide +kernel⟩
theorem ok_fate {fa : Addr} {fd : FuncData} (F : Fun K "fate" "fate" s_fate fa fd) (hm : mg "fate" = some (.ref fa)) (hb : Binds K fd ["rules", "row"] []) (bi : Bi mg) (h_look_row : Ok P w K mg base "look_row" 4 ["rules", "row"] M_look_row) (h_fate_of : Ok P w K mg base "fate_of" 5 ["rules", "row"] M_fate_of) : Ok P w K mg base "fate" 6 ["rules", "row"] M_fate := by
  refine ok_of (N := N_fate) (k := 5) (f := f_fate) F hm hb sc_fate (fun ds hl => .inr rfl) fun cdv A outer s H E F0 H0 hr tk po => ?_
  have nd := sc_fate.nd
  exact dss_cons (by exact ds_expr (by exact de_call h_look_row (by exact hr.mono (by decide)) tk (by exact da_cons (by exact de_var 0) (by exact da_cons (by exact de_var 1) da_nil)))) (by exact dss_one (by exact ds_ret (by exact de_call h_fate_of (by exact hr.mono (by decide)) tk (by exact da_cons (by exact de_var 0) (by exact da_cons (by exact de_var 1) da_nil)))))

abbrev N_after : List Str := ["rules", "row", "many", "turn"]
theorem sc_after : FnScope N_after ["rules", "row", "many"] (defScope s_after) := ⟨rfl, rfl, rfl, by decide +kernel, rfl, by decide +kernel, by decide +kernel⟩
theorem ok_after {fa : Addr} {fd : FuncData} (F : Fun K "after" "after" s_after fa fd) (hm : mg "after" = some (.ref fa)) (hb : Binds K fd ["rules", "row", "many"] []) (bi : Bi mg) (x_BadCount : ExcC K mg "BadCount") (x_Ended : ExcC K mg "Ended") (h_look_row : Ok P w K mg base "look_row" 4 ["rules", "row"] M_look_row) (h_is_within : Ok P w K mg base "is_within" 1 ["thing", "low", "high"] M_is_within) (h_has_ended : Ok P w K mg base "has_ended" 2 ["rules", "row"] M_has_ended) (h_next_of : Ok P w K mg base "next_of" 2 ["rules", "row"] M_next_of) : Ok P w K mg base "after" 5 ["rules", "row", "many"] M_after := by
  refine ok_of (N := N_after) (k := 4) (f := f_after) F hm hb sc_after (fun ds hl => .inr rfl) fun cdv A outer s H E F0 H0 hr tk po => ?_
  have nd := sc_after.nd
  exact dss_cons (by exact ds_expr (by exact de_call h_look_row (by exact hr.mono (by decide)) tk (by exact da_cons (by exact de_var 0) (by exact da_cons (by exact de_var 1) da_nil)))) (by exact dss_cons (by exact ds_if (by exact dt_not (by exact dt_truth (by exact DE.b (by exact de_call h_is_within (by exact hr.mono (by decide)) tk (by exact da_cons (by exact de_var 2) (by exact da_cons de_int (by exact da_cons de_int da_nil))))))) (by exact dss_one (by exact ds_raise rfl tk x_BadCount)) dss_nil) (by exact dss_cons (by exact ds_forN (i := 3) nd po rfl (by exact di_range1 bi.b_range (by exact dab_cons (by exact DE.b (by exact de_var 2)) dab_nil)) (fun _ => by exact dss_cons (by exact ds_if (by exact dt_truth (by exact DE.b (by exact de_call h_has_ended (by exact hr.mono (by decide)) tk (by exact da_cons (by exact de_var 0) (by exact da_cons (by exact de_var 1) da_nil))))) (by exact dss_one (by exact ds_raise rfl tk x_Ended)) dss_nil) (by exact dss_one (by exact ds_asg (i := 1) nd (by exact de_call h_next_of (by exact hr.mono (by decide)) tk (by exact da_cons (by exact de_var 0) (by exact da_cons (by exact de_var 1) da_nil))))))) (by exact dss_one (by exact ds_ret (by exact de_var 1)))))

abbrev N_image : List Str := ["rules", "word"]
theorem sc_image : FnScope N_image ["rules", "word"] (defScope s_image) := ⟨rfl, rfl, rfl, by decide +kernel, rfl, by decide +kernel, by decide +kernel⟩
theorem ok_image {fa : Addr} {fd : FuncData} (F : Fun K "image" "image" s_image fa fd) (hm : mg "image" = some (.ref fa)) (hb : Binds K fd ["rules", "word"] []) (bi : Bi mg) (x_BadWord : ExcC K mg "BadWord") (h_look_row : Ok P w K mg base "look_row" 4 ["rules", "row"] M_look_row) (h_is_whole : Ok P w K mg base "is_whole" 2 ["rules", "word"] M_is_whole) (h_told_of : Ok P w K mg base "told_of" 2 ["rules", "word"] M_told_of) : Ok P w K mg base "image" 5 ["rules", "word"] M_image := by
  refine ok_of (N := N_image) (k := 4) (f := f_image) F hm hb sc_image (fun ds hl => .inr rfl) fun cdv A outer s H E F0 H0 hr tk po => ?_
  have nd := sc_image.nd
  exact dss_cons (by exact ds_expr (by exact de_call h_look_row (by exact hr.mono (by decide)) tk (by exact da_cons (by exact de_var 0) (by exact da_cons (by exact de_var 1) da_nil)))) (by exact dss_cons (by exact ds_if (by exact dt_not (by exact dt_truth (by exact DE.b (by exact de_call h_is_whole (by exact hr.mono (by decide)) tk (by exact da_cons (by exact de_var 0) (by exact da_cons (by exact de_var 1) da_nil)))))) (by exact dss_one (by exact ds_raise rfl tk x_BadWord)) dss_nil) (by exact dss_one (by exact ds_ret (by exact de_call h_told_of (by exact hr.mono (by decide)) tk (by exact da_cons (by exact de_var 0) (by exact da_cons (by exact de_var 1) da_nil))))))

abbrev N_next_row : List Str := ["rules", "row"]
theorem sc_next_row : FnScope N_next_row ["rules", "row"] (defScope s_next_row) := ⟨rfl, rfl, rfl, by decide +kernel, rfl, by decide +kernel, by decide +kernel⟩
theorem ok_next_row {fa : Addr} {fd : FuncData} (F : Fun K "next_row" "next_row" s_next_row fa fd) (hm : mg "next_row" = some (.ref fa)) (hb : Binds K fd ["rules", "row"] []) (bi : Bi mg) (x_Ended : ExcC K mg "Ended") (h_look_row : Ok P w K mg base "look_row" 4 ["rules", "row"] M_look_row) (h_has_ended : Ok P w K mg base "has_ended" 2 ["rules", "row"] M_has_ended) (h_next_of : Ok P w K mg base "next_of" 2 ["rules", "row"] M_next_of) : Ok P w K mg base "next_row" 5 ["rules", "row"] M_next_row := by
  refine ok_of (N := N_next_row) (k := 4) (f := f_next_row) F hm hb sc_next_row (fun ds hl => .inr rfl) fun cdv A outer s H E F0 H0 hr tk po => ?_
  have nd := sc_next_row.nd
  exact dss_cons (by exact ds_expr (by exact de_call h_look_row (by exact hr.mono (by decide)) tk (by exact da_cons (by exact de_var 0) (by exact da_cons (by exact de_var 1) da_nil)))) (by exact dss_cons (by exact ds_if (by exact dt_truth (by exact DE.b (by exact de_call h_has_ended (by exact hr.mono (by decide)) tk (by exact da_cons (by exact de_var 0) (by exact da_cons (by exact de_var 1) da_nil))))) (by exact dss_one (by exact ds_raise rfl tk x_Ended)) dss_nil) (by exact dss_one (by exact ds_ret (by exact de_call h_next_of (by exact hr.mono (by decide)) tk (by exact da_cons (by exact de_var 0) (by exact da_cons (by exact de_var 1) da_nil))))))

abbrev N_ahead_of : List Str := ["rules", "row", "found", "tails", "place", "longer", "tail", "letter", "word"]
theorem sc_ahead_of : FnScope N_ahead_of ["rules", "row"] (defScope s_ahead_of) := ⟨rfl, rfl, rfl, by decide +kernel, rfl, by decide +kernel, by decide +kernel⟩
theorem ok_ahead_of {fa : Addr} {fd : FuncData} (F : Fun K "ahead_of" "ahead_of" s_ahead_of fa fd) (hm : mg "ahead_of" = some (.ref fa)) (hb : Binds K fd ["rules", "row"] []) (bi : Bi mg) (gl_LETTERS : Glob K mg "LETTERS" (.str "abc")) (h_word_of : Ok P w K mg base "word_of" 1 ["rules", "letter"] M_word_of) : Ok P w K mg base "ahead_of" 2 ["rules", "row"] M_ahead_of := by
  refine ok_of (N := N_ahead_of) (k := 1) (f := f_ahead_of) F hm hb sc_ahead_of (fun ds hl => .inr rfl) fun cdv A outer s H E F0 H0 hr tk po => ?_
  have nd := sc_ahead_of.nd
  exact dss_cons (by exact ds_own (i := 2) nd (by exact dn_lst da_nil)) (by exact dss_cons (by exact ds_asg (i := 3) nd (by exact DN.e (by exact dn_lst (by exact da_cons de_str da_nil)))) (by exact dss_cons (by exact ds_forN (i := 4) nd po rfl (by exact di_range1 bi.b_range (by exact dab_cons (by exact DE.b (by exact de_op op_sub (ref_sub _) (by exact DE.b (by exact de_ix (by exact DE.b (by exact de_var 0)) (by exact DE.b de_int))) (by exact DE.b de_int))) dab_nil)) (fun _ => by exact dss_cons (by exact ds_own (i := 5) nd (by exact dn_lst da_nil)) (by exact dss_cons (by exact ds_forN (i := 6) nd po rfl (by exact di_seq (by exact de_var 3)) (fun _ => by exact dss_one (by exact ds_ext (i := 5) (by exact DE.b (by exact DN.e (by exact dn_lc (own := [("letter", 7)]) (t := (gName 7)) rfl nd (by exact di_seq (by exact de_slice (by exact DE.b (by exact de_glob gl_LETTERS)) do_none (by exact do_some (by exact DE.b (by exact de_callB call_len (ref_len _) (by rfl) bi.b_len (by decide +kernel) (by exact dab_cons (by exact DE.b (by exact de_ix (by exact DE.b (by exact de_var 0)) (by exact DE.b de_int))) dab_nil)))))) (blkOk_by (N := N_ahead_of) (sc := defScope s_ahead_of) (by decide +kernel)) (fun _ _ _ _ _ => by exact pg_name (i := 7) nd rfl (Or.inl rfl)) (tgtC_name (by decide)) (fun _ _ _ _ _ => by exact dts_nil) (fun _ _ _ _ _ => by exact de_op op_addAll (ref_add _) (by exact DE.b (by exact de_var 6)) (by exact DE.b (by exact de_var 7))))))))) (by exact dss_one (by exact ds_fz 5 (by exact ds_asg (i := 3) nd (by exact de_var 5))))))) (by exact dss_cons (by exact ds_forN (i := 7) nd po rfl (by exact di_seq (by exact de_slice (by exact DE.b (by exact de_glob gl_LETTERS)) do_none (by exact do_some (by exact DE.b (by exact de_callB call_len (ref_len _) (by rfl) bi.b_len (by decide +kernel) (by exact dab_cons (by exact DE.b (by exact de_ix (by exact DE.b (by exact de_var 0)) (by exact DE.b de_int))) dab_nil)))))) (fun _ => by exact dss_cons (by exact ds_asg (i := 8) nd (by exact de_call h_word_of (by exact hr.mono (by decide)) tk (by exact da_cons (by exact de_var 0) (by exact da_cons (by exact de_var 7) da_nil)))) (by exact dss_one (by exact ds_if (by exact DW.t (by exact dw_and (by exact dt_cmp op_isNotAll (ref_isnot _) (by exact DE.b (by exact de_var 8)) (by exact DE.b de_none) (nomark _)) (by exact dw_and1 (by exact dt_truth (by exact DE.b (by exact de_m (.inl rfl) PySem.F.plainAttrs_str PySem.F.slot_str_endswith PySem.F.type_str_endswith mt_endswith (ref_ends _) (by exact DE.b (by exact de_var 1)) (by exact dab_cons (by exact DE.b (by exact de_var 8)) dab_nil))))))) (by exact dss_one (by exact ds_ext (i := 2) (by exact DE.b (by exact DN.e (by exact dn_lc (own := [("tail", 6)]) (t := (gName 6)) rfl nd (by exact di_seq (by exact de_var 3)) (blkOk_by (N := N_ahead_of) (sc := defScope s_ahead_of) (by decide +kernel)) (fun _ _ _ _ _ => by exact pg_name (i := 6) nd rfl (Or.inl rfl)) (tgtC_name (by decide)) (fun _ _ _ _ _ => by exact dts_nil) (fun _ _ _ _ _ => by exact de_op op_addAll (ref_add _) (by exact DE.b (by exact de_op op_addAll (ref_add _) (by exact DE.b (by exact de_var 7)) (by exact DE.b (by exact de_var 6)))) (by exact DE.b (by exact de_slice (by exact DE.b (by exact de_var 1)) do_none (by exact do_some (by exact DE.b (by exact de_op op_sub (ref_sub _) (by exact DE.b (by exact de_callB call_len (ref_len _) (by rfl) bi.b_len (by decide +kernel) (by exact dab_cons (by exact DE.b (by exact de_var 1)) dab_nil))) (by exact DE.b (by exact de_callB call_len (ref_len _) (by rfl) bi.b_len (by decide +kernel) (by exact dab_cons (by exact DE.b (by exact de_var 8)) dab_nil)))))))))))))) dss_nil)))) (by exact dss_one (by exact ds_ret (by exact DN.e (by exact dn_callB cr_sortedS (ref_sorted _) (by rfl) bi.b_sorted (by decide +kernel) (by exact dab_cons (by exact db_var 2) dab_nil))))))))

abbrev N_leading : List Str := ["rules", "row", "many", "rows", "turn", "longer", "one", "other"]
theorem sc_leading : FnScope N_leading ["rules", "row", "many"] (defScope s_leading) := ⟨rfl, rfl, rfl, by decide +kernel, rfl, by decide +kernel, by decide +kernel⟩
theorem ok_leading {fa : Addr} {fd : FuncData} (F : Fun K "leading" "leading" s_leading fa fd) (hm : mg "leading" = some (.ref fa)) (hb : Binds K fd ["rules", "row", "many"] []) (bi : Bi mg) (x_BadCount : ExcC K mg "BadCount") (x_TooMany : ExcC K mg "TooMany") (h_look_row : Ok P w K mg base "look_row" 4 ["rules", "row"] M_look_row) (h_is_within : Ok P w K mg base "is_within" 1 ["thing", "low", "high"] M_is_within) (h_ahead_of : Ok P w K mg base "ahead_of" 2 ["rules", "row"] M_ahead_of) : Ok P w K mg base "leading" 5 ["rules", "row", "many"] M_leading := by
  refine ok_of (N := N_leading) (k := 4) (f := f_leading) F hm hb sc_leading (fun ds hl => .inr rfl) fun cdv A outer s H E F0 H0 hr tk po => ?_
  have nd := sc_leading.nd
  exact dss_cons (by exact ds_expr (by exact de_call h_look_row (by exact hr.mono (by decide)) tk (by exact da_cons (by exact de_var 0) (by exact da_cons (by exact de_var 1) da_nil)))) (by exact dss_cons (by exact ds_if (by exact dt_not (by exact dt_truth (by exact DE.b (by exact de_call h_is_within (by exact hr.mono (by decide)) tk (by exact da_cons (by exact de_var 2) (by exact da_cons de_int (by exact da_cons de_int da_nil))))))) (by exact dss_one (by exact ds_raise rfl tk x_BadCount)) dss_nil) (by exact dss_cons (by exact ds_asg (i := 3) nd (by exact DN.e (by exact dn_lst (by exact da_cons (by exact de_var 1) da_nil)))) (by exact dss_cons (by exact ds_forN (i := 4) nd po rfl (by exact di_range1 bi.b_range (by exact dab_cons (by exact DE.b (by exact de_var 2)) dab_nil)) (fun _ => by exact dss_cons (by exact ds_newK (i := 5) nd) (by exact dss_cons (by exact ds_forN (i := 6) nd po rfl (by exact di_seq (by exact de_var 3)) (fun _ => by exact dss_one (by exact ds_forN (i := 7) nd po rfl (by exact di_seq (by exact de_call h_ahead_of (by exact hr.mono (by decide)) tk (by exact da_cons (by exact de_var 0) (by exact da_cons (by exact de_var 6) da_nil)))) (fun _ => by exact dss_one (by exact ds_putK (i := 5) (by exact hu_of hr) (by exact de_var 7) de_bool))))) (by exact dss_cons (by exact ds_if (by exact dt_cmp op_gt (ref_gt _) (by exact DE.b (by exact de_lenK (i := 5) bi.b_len)) (by exact DE.b de_int) (nomark _)) (by exact dss_one (by exact ds_raise rfl tk x_TooMany)) dss_nil) (by exact dss_one (by exact ds_asg (i := 3) nd (by exact DN.e (by exact dn_sortKA (i := 5) rfl bi.b_sorted)))))))) (by exact dss_one (by exact ds_ret (by exact de_var 3))))))

abbrev N_word_read : List Str := ["letter", "text"]
theorem sc_word_read : FnScope N_word_read ["letter", "text"] (defScope s_word_read) := ⟨rfl, rfl, rfl, by decide +kernel, rfl, by decide +kernel, by decide +kernel⟩
theorem ok_word_read {fa : Addr} {fd : FuncData} (F : Fun K "word_read" "word_read" s_word_read fa fd) (hm : mg "word_read" = some (.ref fa)) (hb : Binds K fd ["letter", "text"] []) (bi : Bi mg) (x_BadText : ExcC K mg "BadText") : Ok P w K mg base "word_read" 1 ["letter", "text"] M_word_read := by
  refine ok_of (N := N_word_read) (k := 0) (f := f_word_read) F hm hb sc_word_read (fun ds hl => .inr rfl) fun cdv A outer s H E F0 H0 hr tk po => ?_
  have nd := sc_word_read.nd
  exact dss_cons (by exact ds_if (by exact dt_cmp (op_neAll (by exact hr.units)) (ref_ne _) (by exact DE.b (by exact de_slice (by exact DE.b (by exact de_var 1)) do_none (by exact do_some (by exact DE.b de_int)))) (by exact DE.b (by exact de_op op_addAll (ref_add _) (by exact DE.b (by exact de_var 0)) (by exact DE.b de_str))) (nomark _)) (by exact dss_one (by exact ds_raise rfl tk x_BadText)) dss_nil) (by exact dss_cons (by exact ds_if (by exact dt_cmp (op_eqAll (by exact hr.units)) (ref_eq _) (by exact DE.b (by exact de_slice (by exact DE.b (by exact de_var 1)) (by exact do_some (by exact DE.b de_int)) do_none)) (by exact DE.b de_str) (nomark _)) (by exact dss_one (by exact ds_ret de_none)) dss_nil) (by exact dss_one (by exact ds_ret (by exact de_slice (by exact DE.b (by exact de_var 1)) (by exact do_some (by exact DE.b de_int)) do_none))))

abbrev N_read : List Str := ["text", "parts", "found", "letter", "part"]
theorem sc_read : FnScope N_read ["text"] (defScope s_read) := ⟨rfl, rfl, rfl, by decide +kernel, rfl, by decide +kernel, by decide +kernel⟩
theorem ok_read {fa : Addr} {fd : FuncData} (F : Fun K "read" "read" s_read fa fd) (hm : mg "read" = some (.ref fa)) (hb : Binds K fd ["text"] []) (bi : Bi mg) (gl_LETTERS : Glob K mg "LETTERS" (.str "abc")) (x_BadText : ExcC K mg "BadText") (h_word_read : Ok P w K mg base "word_read" 1 ["letter", "text"] M_word_read) (h_is_rules : Ok P w K mg base "is_rules" 2 ["thing"] M_is_rules) : Ok P w K mg base "read" 3 ["text"] M_read := by
  refine ok_of (N := N_read) (k := 2) (f := f_read) F hm hb sc_read (fun ds hl => .inr rfl) fun cdv A outer s H E F0 H0 hr tk po => ?_
  have nd := sc_read.nd
  exact dss_cons (by exact ds_if (by exact dt_not (by exact dt_truth (by exact DE.b (by exact de_isi (T := "str") (by decide +kernel) (by decide +kernel) bi.b_isinstance bi.b_str (by exact DE.b (by exact de_var 0)))))) (by exact dss_one (by exact ds_raise rfl tk x_BadText)) dss_nil) (by exact dss_cons (by exact ds_asg (i := 1) nd (by exact DN.e (by exact dn_m (.inl rfl) PySem.F.plainAttrs_str PySem.F.slot_str_split PySem.F.type_str_split mt_split (ref_split _) (by exact DE.b (by exact de_var 0)) (by exact dab_cons (by exact DE.b de_str) dab_nil)))) (by exact dss_cons (by exact ds_if (by exact DW.t (by exact dw_or (by exact dt_cmp op_notInAll (ref_notin _) (by exact DE.b (by exact de_ix (by exact DE.b (by exact de_var 1)) (by exact DE.b de_int))) (by exact DE.b (by exact de_tup (by exact da_cons de_str (by exact da_cons de_str (by exact da_cons de_str da_nil))))) rfl) (by exact dw_or1 (by exact dt_cmp op_gt (ref_gt _) (by exact DE.b (by exact de_callB call_len (ref_len _) (by rfl) bi.b_len (by decide +kernel) (by exact dab_cons (by exact DE.b (by exact de_var 1)) dab_nil))) (by exact DE.b de_int) (nomark _))))) (by exact dss_one (by exact ds_raise rfl tk x_BadText)) dss_nil) (by exact dss_cons (by exact ds_asg (i := 2) nd (by exact de_tup (by exact da_cons (by exact de_callTy call_int_str (ref_int _) (by rfl) bi.b_int (by decide +kernel) (by exact dab_cons (by exact DE.b (by exact de_ix (by exact DE.b (by exact de_var 1)) (by exact DE.b de_int))) dab_nil)) (by exact da_cons (by exact de_callTy call_tuple_of (ref_tuple _) (by rfl) bi.b_tuple (by decide +kernel) (by exact dab_cons (by exact DE.b (by exact DN.e (by exact dn_lcE (own := [("letter", 3), ("part", 4)]) (t := (gTup _ 2 (gCons (gName 3) (gCons (gName 4) gNil)))) tk rfl nd (by exact di_zip2 bi.b_zip (by exact da_cons (by exact de_glob gl_LETTERS) (by exact da_cons (by exact de_slice (by exact DE.b (by exact de_var 1)) (by exact do_some (by exact DE.b de_int)) do_none) da_nil))) (blkOk_by (N := N_read) (sc := defScope s_read) (by decide +kernel)) (fun _ _ _ _ _ => by exact pg_tup rfl (pgs_cons (pg_name (i := 3) nd rfl (Or.inl rfl)) (pgs_cons (pg_name (i := 4) nd rfl (Or.inl rfl)) pgs_nil))) (tgtC_two (by decide) (by decide)) (fun _ _ _ _ _ _ => by exact de_callE h_word_read (by exact hr.mono (by decide)) (by exact da_cons (by exact de_var 3) (by exact da_cons (by exact de_var 4) da_nil)))))) dab_nil)) da_nil)))) (by exact dss_cons (by exact ds_if (by exact dt_not (by exact dt_truth (by exact DE.b (by exact de_call h_is_rules (by exact hr.mono (by decide)) tk (by exact da_cons (by exact de_var 2) da_nil))))) (by exact dss_one (by exact ds_raise rfl tk x_BadText)) dss_nil) (by exact dss_one (by exact ds_ret (by exact de_var 2)))))))

abbrev N__law_deeds_of : List Str := ["kind", "rules"]
theorem sc__law_deeds_of : FnScope N__law_deeds_of ["kind"] (defScope s__law_deeds_of) := ⟨rfl, rfl, rfl, by decide +kernel, rfl, by decide +kernel, by decide +kernel⟩
theorem ok__law_deeds_of {fa : Addr} {fd : FuncData} (F : Fun K "_law_deeds_of" "_law_deeds_of" s__law_deeds_of fa fd) (hm : mg "_law_deeds_of" = some (.ref fa)) (hb : Binds K fd ["kind"] []) (bi : Bi mg) (h_shown : Ok P w K mg base "shown" 4 ["rules"] M_shown) (h_fate : Ok P w K mg base "fate" 6 ["rules", "row"] M_fate) (h_after : Ok P w K mg base "after" 5 ["rules", "row", "many"] M_after) (h_image : Ok P w K mg base "image" 5 ["rules", "word"] M_image) (h_next_row : Ok P w K mg base "next_row" 5 ["rules", "row"] M_next_row) (h_leading : Ok P w K mg base "leading" 5 ["rules", "row", "many"] M_leading) (h_read : Ok P w K mg base "read" 3 ["text"] M_read) : Ok P w K mg base "_law_deeds_of" 7 ["kind"] M__law_deeds_of := by
  refine ok_of (N := N__law_deeds_of) (k := 6) (f := f__law_deeds_of) F hm hb sc__law_deeds_of (fun ds hl => .inr rfl) fun cdv A outer s H E F0 H0 hr tk po => ?_
  have nd := sc__law_deeds_of.nd
  exact dss_cons (by exact ds_asg (i := 1) nd (by exact de_tup (by exact da_cons de_int (by exact da_cons (by exact de_tup (by exact da_cons de_str (by exact da_cons de_str (by exact da_cons de_str da_nil)))) da_nil)))) (by exact dss_cons (by exact ds_if (by exact dt_cmp (op_eqAll (by exact hr.units)) (ref_eq _) (by exact DE.b (by exact de_var 0)) (by exact DE.b de_int) (nomark _)) (by exact dss_one (by exact ds_ret (by exact de_call h_shown (by exact hr.mono (by decide)) tk (by exact da_cons de_none da_nil)))) dss_nil) (by exact dss_cons (by exact ds_if (by exact dt_cmp (op_eqAll (by exact hr.units)) (ref_eq _) (by exact DE.b (by exact de_var 0)) (by exact DE.b de_int) (nomark _)) (by exact dss_one (by exact ds_ret (by exact de_call h_fate (by exact hr.mono (by decide)) tk (by exact da_cons (by exact de_var 1) (by exact da_cons de_str da_nil))))) dss_nil) (by exact dss_cons (by exact ds_if (by exact dt_cmp (op_eqAll (by exact hr.units)) (ref_eq _) (by exact DE.b (by exact de_var 0)) (by exact DE.b de_int) (nomark _)) (by exact dss_one (by exact ds_ret (by exact de_call h_after (by exact hr.mono (by decide)) tk (by exact da_cons (by exact de_var 1) (by exact da_cons de_str (by exact da_cons de_int da_nil)))))) dss_nil) (by exact dss_cons (by exact ds_if (by exact dt_cmp (op_eqAll (by exact hr.units)) (ref_eq _) (by exact DE.b (by exact de_var 0)) (by exact DE.b de_int) (nomark _)) (by exact dss_one (by exact ds_ret (by exact de_call h_image (by exact hr.mono (by decide)) tk (by exact da_cons (by exact de_var 1) (by exact da_cons de_str da_nil))))) dss_nil) (by exact dss_cons (by exact ds_if (by exact dt_cmp (op_eqAll (by exact hr.units)) (ref_eq _) (by exact DE.b (by exact de_var 0)) (by exact DE.b de_int) (nomark _)) (by exact dss_one (by exact ds_ret (by exact de_call h_next_row (by exact hr.mono (by decide)) tk (by exact da_cons (by exact de_var 1) (by exact da_cons de_str da_nil))))) dss_nil) (by exact dss_one (by exact ds_ret (by exact de_if (by exact dt_cmp (op_eqAll (by exact hr.units)) (ref_eq _) (by exact DE.b (by exact de_var 0)) (by exact DE.b de_int) (nomark _)) (by exact de_call h_leading (by exact hr.mono (by decide)) tk (by exact da_cons (by exact de_var 1) (by exact da_cons de_str (by exact da_cons de_int da_nil)))) (by exact de_call h_read (by exact hr.mono (by decide)) tk (by exact da_cons de_str da_nil))))))))))

abbrev N__law_kinds_of : List Str := ["kind", "some", "e"]
theorem sc__law_kinds_of : FnScope N__law_kinds_of ["kind"] (defScope s__law_kinds_of) := ⟨rfl, rfl, rfl, by decide +kernel, rfl, by decide +kernel, by decide +kernel⟩
theorem ok__law_kinds_of {fa : Addr} {fd : FuncData} (F : Fun K "_law_kinds_of" "_law_kinds_of" s__law_kinds_of fa fd) (hm : mg "_law_kinds_of" = some (.ref fa)) (hb : Binds K fd ["kind"] []) (bi : Bi mg) (x_CutError : ExcC K mg "CutError") (x_BadWord : ExcC K mg "BadWord") (x_BadCount : ExcC K mg "BadCount") (x_BadRow : ExcC K mg "BadRow") (x_BadRules : ExcC K mg "BadRules") (x_BadText : ExcC K mg "BadText") (x_TooMany : ExcC K mg "TooMany") (x_Ended : ExcC K mg "Ended") (em__law_kinds_of : ExmT K mg ex__law_kinds_of ["CutError"]) (xi__law_kinds_of : XIs K mg ex__law_kinds_of ["BadWord", "BadCount", "BadRow", "BadRules", "BadText", "TooMany", "Ended"]) (fr_ValueError : mg "ValueError" = none) (h__law_deeds_of : Ok P w K mg base "_law_deeds_of" 7 ["kind"] M__law_deeds_of) : Ok P w K mg base "_law_kinds_of" 8 ["kind"] M__law_kinds_of := by
  refine ok_of (N := N__law_kinds_of) (k := 7) (f := f__law_kinds_of) F hm hb sc__law_kinds_of (fun ds hl => .inr rfl) fun cdv A outer s H E F0 H0 hr tk po => ?_
  have nd := sc__law_kinds_of.nd
  exact dss_cons (by exact ds_own (i := 1) nd (by exact dn_lst da_nil)) (by exact dss_cons (by exact ds_tryAs (i := 2) rfl rfl nd tk em__law_kinds_of x_CutError (fun W2 pn xe tk2 po2 => by exact dss_one (by exact ds_expr (by exact de_call h__law_deeds_of (by exact hr.mono (by decide)) tk2 (by exact da_cons (by exact de_var 0) da_nil)))) (fun wa oe C c wsup pn m hm hz hf => by exact dss_cons (by exact ds_own (i := 1) nd (by exact dn_lst (by exact da_cons (by exact de_isE (xi__law_kinds_of.ec _ hm C m) hz hf (xi__law_kinds_of.kit _ hm "BadRules" (by simp) C _ m x_BadRules.ex.choose_spec.1) x_BadRules.ex.choose_spec.1 bi.b_isinstance) (by exact da_cons (by exact de_isE (xi__law_kinds_of.ec _ hm C m) hz hf (xi__law_kinds_of.kit _ hm "BadRow" (by simp) C _ m x_BadRow.ex.choose_spec.1) x_BadRow.ex.choose_spec.1 bi.b_isinstance) (by exact da_cons (by exact de_isE (xi__law_kinds_of.ec _ hm C m) hz hf (xi__law_kinds_of.kit _ hm "BadCount" (by simp) C _ m x_BadCount.ex.choose_spec.1) x_BadCount.ex.choose_spec.1 bi.b_isinstance) (by exact da_cons (by exact de_isE (xi__law_kinds_of.ec _ hm C m) hz hf (xi__law_kinds_of.kit _ hm "BadWord" (by simp) C _ m x_BadWord.ex.choose_spec.1) x_BadWord.ex.choose_spec.1 bi.b_isinstance) da_nil)))))) (by exact dss_cons (by exact ds_own (i := 1) nd (by exact dn_cat (by exact db_var 1) (by exact DE.b (by exact DN.e (by exact dn_lst (by exact da_cons (by exact de_isE (xi__law_kinds_of.ec _ hm C m) hz hf (xi__law_kinds_of.kit _ hm "Ended" (by simp) C _ m x_Ended.ex.choose_spec.1) x_Ended.ex.choose_spec.1 bi.b_isinstance) (by exact da_cons (by exact de_isE (xi__law_kinds_of.ec _ hm C m) hz hf (xi__law_kinds_of.kit _ hm "TooMany" (by simp) C _ m x_TooMany.ex.choose_spec.1) x_TooMany.ex.choose_spec.1 bi.b_isinstance) (by exact da_cons (by exact de_isE (xi__law_kinds_of.ec _ hm C m) hz hf (xi__law_kinds_of.kit _ hm "BadText" (by simp) C _ m x_BadText.ex.choose_spec.1) x_BadText.ex.choose_spec.1 bi.b_isinstance) da_nil)))))))) (by exact dss_one (by exact ds_app (i := 1) (by exact de_isEB (xi__law_kinds_of.ec _ hm C m) hz hf (xi__law_kinds_of.ve _ hm C m) fr_ValueError (by rfl) bi.b_isinstance)))))) (by exact dss_one (by exact ds_fz 1 (by exact ds_ret (by exact de_var 1)))))

abbrev N_grows_by : List Str := ["rules", "part"]
theorem sc_grows_by : FnScope N_grows_by ["rules", "part"] (defScope s_grows_by) := ⟨rfl, rfl, rfl, by decide +kernel, rfl, by decide +kernel, by decide +kernel⟩
theorem ok_grows_by {fa : Addr} {fd : FuncData} (F : Fun K "grows_by" "grows_by" s_grows_by fa fd) (hm : mg "grows_by" = some (.ref fa)) (hb : Binds K fd ["rules", "part"] []) (bi : Bi mg) (h_look_row : Ok P w K mg base "look_row" 4 ["rules", "row"] M_look_row) (h_share : Ok P w K mg base "share" 3 ["rules", "part"] M_share) : Ok P w K mg base "grows_by" 5 ["rules", "part"] M_grows_by := by
  refine ok_of (N := N_grows_by) (k := 4) (f := f_grows_by) F hm hb sc_grows_by (fun ds hl => .inr rfl) fun cdv A outer s H E F0 H0 hr tk po => ?_
  have nd := sc_grows_by.nd
  exact dss_cons (by exact ds_expr (by exact de_call h_look_row (by exact hr.mono (by decide)) tk (by exact da_cons (by exact de_var 0) (by exact da_cons (by exact de_var 1) da_nil)))) (by exact dss_one (by exact ds_ret (by exact de_call h_share (by exact hr.mono (by decide)) tk (by exact da_cons (by exact de_var 0) (by exact da_cons (by exact de_var 1) da_nil)))))

abbrev N_root_of : List Str := ["word", "long"]
theorem sc_root_of : FnScope N_root_of ["word"] (defScope s_root_of) := ⟨rfl, rfl, rfl, by decide +kernel, rfl, by decide +kernel, by decide +kernel⟩
theorem ok_root_of {fa : Addr} {fd : FuncData} (F : Fun K "root_of" "root_of" s_root_of fa fd) (hm : mg "root_of" = some (.ref fa)) (hb : Binds K fd ["word"] []) (bi : Bi mg) : Ok P w K mg base "root_of" 1 ["word"] M_root_of := by
  refine ok_of (N := N_root_of) (k := 0) (f := f_root_of) F hm hb sc_root_of (fun ds hl => .inr rfl) fun cdv A outer s H E F0 H0 hr tk po => ?_
  have nd := sc_root_of.nd
  exact dss_cons (by exact ds_forN (i := 1) nd po rfl (by exact di_range2 bi.b_range (by exact dab_cons (by exact DE.b de_int) (by exact dab_cons (by exact DE.b (by exact de_op op_addAll (ref_add _) (by exact DE.b (by exact de_callB call_len (ref_len _) (by rfl) bi.b_len (by decide +kernel) (by exact dab_cons (by exact DE.b (by exact de_var 0)) dab_nil))) (by exact DE.b de_int))) dab_nil))) (fun _ => by exact dss_one (by exact ds_if (by exact DW.t (by exact dw_and (by exact dt_cmp (op_eqAll (by exact hr.units)) (ref_eq _) (by exact DE.b (by exact de_op op_mod (ref_mod _) (by exact DE.b (by exact de_callB call_len (ref_len _) (by rfl) bi.b_len (by decide +kernel) (by exact dab_cons (by exact DE.b (by exact de_var 0)) dab_nil))) (by exact DE.b (by exact de_var 1)))) (by exact DE.b de_int) (nomark _)) (by exact dw_and1 (by exact dt_cmp (op_eqAll (by exact hr.units)) (ref_eq _) (by exact DE.b (by exact de_op op_mulAll (ref_mul _) (by exact DE.b (by exact de_slice (by exact DE.b (by exact de_var 0)) do_none (by exact do_some (by exact DE.b (by exact de_var 1))))) (by exact DE.b (by exact de_op op_fdiv (ref_div _) (by exact DE.b (by exact de_callB call_len (ref_len _) (by rfl) bi.b_len (by decide +kernel) (by exact dab_cons (by exact DE.b (by exact de_var 0)) dab_nil))) (by exact DE.b (by exact de_var 1)))))) (by exact DE.b (by exact de_var 0)) (nomark _))))) (by exact dss_one (by exact ds_ret (by exact de_tup (by exact da_cons (by exact de_slice (by exact DE.b (by exact de_var 0)) do_none (by exact do_some (by exact DE.b (by exact de_var 1)))) (by exact da_cons (by exact de_op op_fdiv (ref_div _) (by exact DE.b (by exact de_callB call_len (ref_len _) (by rfl) bi.b_len (by decide +kernel) (by exact dab_cons (by exact DE.b (by exact de_var 0)) dab_nil))) (by exact DE.b (by exact de_var 1))) da_nil))))) dss_nil))) (by exact dss_one (by exact ds_ret (by exact de_tup (by exact da_cons de_str (by exact da_cons de_int da_nil)))))

abbrev N_root : List Str := ["rules", "word"]
theorem sc_root : FnScope N_root ["rules", "word"] (defScope s_root) := ⟨rfl, rfl, rfl, by decide +kernel, rfl, by decide +kernel, by decide +kernel⟩
theorem ok_root {fa : Addr} {fd : FuncData} (F : Fun K "root" "root" s_root fa fd) (hm : mg "root" = some (.ref fa)) (hb : Binds K fd ["rules", "word"] []) (bi : Bi mg) (h_look_row : Ok P w K mg base "look_row" 4 ["rules", "row"] M_look_row) (h_root_of : Ok P w K mg base "root_of" 1 ["word"] M_root_of) : Ok P w K mg base "root" 5 ["rules", "word"] M_root := by
  refine ok_of (N := N_root) (k := 4) (f := f_root) F hm hb sc_root (fun ds hl => .inr rfl) fun cdv A outer s H E F0 H0 hr tk po => ?_
  have nd := sc_root.nd
  exact dss_cons (by exact ds_expr (by exact de_call h_look_row (by exact hr.mono (by decide)) tk (by exact da_cons (by exact de_var 0) (by exact da_cons (by exact de_var 1) da_nil)))) (by exact dss_one (by exact ds_ret (by exact de_call h_root_of (by exact hr.mono (by decide)) tk (by exact da_cons (by exact de_var 1) da_nil))))

abbrev N_law : List Str := ["script", "kind", "k", "many", "rules", "row", "due", "two"]
theorem sc_law : FnScope N_law ["script"] (defScope s_law) := ⟨rfl, rfl, rfl, by decide +kernel, rfl, by decide +kernel, by decide +kernel⟩
theorem ok_law {fa : Addr} {fd : FuncData} (F : Fun K "law" "law" s_law fa fd) (hm : mg "law" = some (.ref fa)) (hb : Binds K fd ["script"] []) (bi : Bi mg) (h__law_cell : Ok P w K mg base "_law_cell" 1 ["script", "k"] M__law_cell) (h__law_kinds_of : Ok P w K mg base "_law_kinds_of" 8 ["kind"] M__law_kinds_of) (h_fate : Ok P w K mg base "fate" 6 ["rules", "row"] M_fate) (h_grows_by : Ok P w K mg base "grows_by" 5 ["rules", "part"] M_grows_by) (h_root : Ok P w K mg base "root" 5 ["rules", "word"] M_root) : FnOk P w K mg base (L2.CX P w) 9 fa fd ["script"] (spD K mg 1 M_law) := by
  refine ok_at (N := N_law) (k := 8) (f := f_law) F hm hb sc_law (fun ds hl => .inr rfl) fun cdv A outer s H E F0 H0 hr tk po => ?_
  have nd := sc_law.nd
  exact dss_cons (by exact ds_asg (i := 1) nd (by exact de_op op_mod (ref_mod _) (by exact DE.b (by exact de_call h__law_cell (by exact hr.mono (by decide)) tk (by exact da_cons (by exact de_var 0) (by exact da_cons de_int da_nil)))) (by exact DE.b de_int))) (by exact dss_cons (by exact ds_if (by exact dt_cmp (op_neAll (by exact hr.units)) (ref_ne _) (by exact DE.b (by exact de_call h__law_kinds_of (by exact hr.mono (by decide)) tk (by exact da_cons (by exact de_var 1) da_nil))) (by exact DE.b (by exact de_op op_addAll (ref_add _) (by exact DE.b (by exact DN.e (by exact dn_lc (own := [("k", 2)]) (t := (gName 2)) rfl nd (by exact di_range1 bi.b_range (by exact dab_cons (by exact DE.b de_int) dab_nil)) (blkOk_by (N := N_law) (sc := defScope s_law) (by decide +kernel)) (fun _ _ _ _ _ => by exact pg_name (i := 2) nd rfl (Or.inl rfl)) (tgtC_name (by decide)) (fun _ _ _ _ _ => by exact dts_nil) (fun _ _ _ _ _ => by exact de_cmp (op_eqAll (by exact hr.units)) (ref_eq _) (by exact DE.b (by exact de_var 2)) (by exact DE.b (by exact de_var 1)) (nomark _))))) (by exact DE.b (by exact DN.e (by exact dn_lst (by exact da_cons de_bool da_nil)))))) (nomark _)) (by exact dss_one (by exact ds_ret de_bool)) dss_nil) (by exact dss_cons (by exact ds_asg (i := 3) nd (by exact de_op op_mod (ref_mod _) (by exact DE.b (by exact de_call h__law_cell (by exact hr.mono (by decide)) tk (by exact da_cons (by exact de_var 0) (by exact da_cons de_int da_nil)))) (by exact DE.b de_int))) (by exact dss_cons (by exact ds_asg (i := 4) nd (by exact de_tup (by exact da_cons de_int (by exact da_cons (by exact de_tup (by exact da_cons (by exact de_op op_mulAll (ref_mul _) (by exact DE.b de_str) (by exact DE.b (by exact de_var 3))) da_nil)) da_nil)))) (by exact dss_cons (by exact ds_asg (i := 5) nd (by exact de_op op_mulAll (ref_mul _) (by exact DE.b de_str) (by exact DE.b (by exact de_op op_addAll (ref_add _) (by exact DE.b de_int) (by exact DE.b (by exact de_op op_mod (ref_mod _) (by exact DE.b (by exact de_call h__law_cell (by exact hr.mono (by decide)) tk (by exact da_cons (by exact de_var 0) (by exact da_cons de_int da_nil)))) (by exact DE.b de_int))))))) (by exact dss_cons (by exact ds_asg (i := 6) nd (by exact de_tup (by exact da_cons de_str (by exact da_cons de_int (by exact da_cons de_str (by exact da_cons (by exact de_var 3) da_nil)))))) (by exact dss_cons (by exact ds_if (by exact dt_cmp op_ltAll (ref_lt _) (by exact DE.b (by exact de_var 3)) (by exact DE.b de_int) (nomark _)) (by exact dss_one (by exact ds_asg (i := 6) nd (by exact de_if (by exact dt_cmp (op_eqAll (by exact hr.units)) (ref_eq _) (by exact DE.b (by exact de_var 3)) (by exact DE.b de_int) (nomark _)) (by exact de_tup (by exact da_cons de_str (by exact da_cons de_int (by exact da_cons de_int da_nil)))) (by exact de_tup (by exact da_cons de_str (by exact da_cons (by exact de_callB call_len (ref_len _) (by rfl) bi.b_len (by decide +kernel) (by exact dab_cons (by exact DE.b (by exact de_var 5)) dab_nil)) (by exact da_cons de_str da_nil))))))) dss_nil) (by exact dss_cons (by exact ds_if (by exact DW.t (by exact dw_or (by exact dt_cmp (op_neAll (by exact hr.units)) (ref_ne _) (by exact DE.b (by exact de_call h_fate (by exact hr.mono (by decide)) tk (by exact da_cons (by exact de_var 4) (by exact da_cons (by exact de_var 5) da_nil)))) (by exact DE.b (by exact de_var 6)) (nomark _)) (by exact dw_or (by exact dt_cmp (op_neAll (by exact hr.units)) (ref_ne _) (by exact DE.b (by exact de_call h_grows_by (by exact hr.mono (by decide)) tk (by exact da_cons (by exact de_var 4) (by exact da_cons (by exact de_var 5) da_nil)))) (by exact DE.b (by exact de_var 3)) (nomark _)) (by exact dw_or1 (by exact dt_cmp (op_neAll (by exact hr.units)) (ref_ne _) (by exact DE.b (by exact de_call h_root (by exact hr.mono (by decide)) tk (by exact da_cons (by exact de_var 4) (by exact da_cons (by exact de_var 5) da_nil)))) (by exact DE.b (by exact de_tup (by exact da_cons de_str (by exact da_cons (by exact de_callB call_len (ref_len _) (by rfl) bi.b_len (by decide +kernel) (by exact dab_cons (by exact DE.b (by exact de_var 5)) dab_nil)) da_nil)))) (nomark _)))))) (by exact dss_one (by exact ds_ret de_bool)) dss_nil) (by exact dss_cons (by exact ds_asg (i := 7) nd (by exact de_tup (by exact da_cons de_int (by exact da_cons (by exact de_tup (by exact da_cons (by exact de_op op_mulAll (ref_mul _) (by exact DE.b de_str) (by exact DE.b (by exact de_var 3))) da_nil)) da_nil)))) (by exact dss_cons (by exact ds_if (by exact dt_cmp op_ltAll (ref_lt _) (by exact DE.b (by exact de_var 3)) (by exact DE.b de_int) (nomark _)) (by exact dss_one (by exact ds_ret (by exact de_and (by exact de_cmp (op_eqAll (by exact hr.units)) (ref_eq _) (by exact DE.b (by exact de_ix (by exact DE.b (by exact de_call h_fate (by exact hr.mono (by decide)) tk (by exact da_cons (by exact de_var 7) (by exact da_cons (by exact de_var 5) da_nil)))) (by exact DE.b de_int))) (by exact DE.b de_str) (nomark _)) (by exact de_one (by exact de_cmp op_ltAll (ref_lt _) (by exact DE.b (by exact de_callB call_len (ref_len _) (by rfl) bi.b_len (by decide +kernel) (by exact dab_cons (by exact DE.b (by exact de_ix (by exact DE.b (by exact de_call h_fate (by exact hr.mono (by decide)) tk (by exact da_cons (by exact de_var 7) (by exact da_cons (by exact de_var 5) da_nil)))) (by exact DE.b de_int))) dab_nil))) (by exact DE.b de_int) (nomark _)))))) dss_nil) (by exact dss_cons (by exact ds_asg (i := 6) nd (by exact de_tup (by exact da_cons de_str (by exact da_cons de_int (by exact da_cons de_int da_nil))))) (by exact dss_cons (by exact ds_if (by exact dt_cmp (op_eqAll (by exact hr.units)) (ref_eq _) (by exact DE.b (by exact de_callB call_len (ref_len _) (by rfl) bi.b_len (by decide +kernel) (by exact dab_cons (by exact DE.b (by exact de_var 5)) dab_nil))) (by exact DE.b de_int) (nomark _)) (by exact dss_one (by exact ds_asg (i := 6) nd (by exact de_tup (by exact da_cons de_str (by exact da_cons de_int (by exact da_cons de_str da_nil)))))) dss_nil) (by exact dss_one (by exact ds_ret (by exact de_or (by exact de_cmp op_gt (ref_gt _) (by exact DE.b (by exact de_var 3)) (by exact DE.b de_int) (nomark _)) (by exact de_one (by exact de_cmp (op_eqAll (by exact hr.units)) (ref_eq _) (by exact DE.b (by exact de_call h_fate (by exact hr.mono (by decide)) tk (by exact da_cons (by exact de_var 7) (by exact da_cons (by exact de_var 5) da_nil)))) (by exact DE.b (by exact de_var 6)) (nomark _)))))))))))))))))

end
theorem all_ok {P : Program} {w : World} {K : PySem.W.Frag} {h : Heap} {mg : Str → Option Value} {fa : Addr} (X : K.In h) (G : h.Ns mainGlobals mg) (hfa : mg "law" = some (.ref fa)) (c : He.SaysE facts fns K) (ex : exK K = true) :
    ∃ fd : FuncData, (∀ (s : Shared) (us : List Value), us.length = 1 → BindsTo s fd ⟨us, []⟩ ((["script"] : List Str).zip us)) ∧ ∀ base : Heap, K.In base → base.Ns mainGlobals mg → FnOk P w K mg base (L2.CX P w) 9 fa fd ["script"] (spD K mg 1 M_law) := by
  have bi : Bi mg := ⟨He.free_ok X G (c.fact 0 rfl), He.free_ok X G (c.fact 1 rfl), He.free_ok X G (c.fact 2 rfl), He.free_ok X G (c.fact 3 rfl), He.free_ok X G (c.fact 4 rfl), He.free_ok X G (c.fact 5 rfl), He.free_ok X G (c.fact 6 rfl), He.free_ok X G (c.fact 7 rfl), He.free_ok X G (c.fact 8 rfl), He.free_ok X G (c.fact 9 rfl), He.free_ok X G (c.fact 10 rfl), He.free_ok X G (c.fact 11 rfl), He.free_ok X G (c.fact 12 rfl), He.free_ok X G (c.fact 13 rfl), He.free_ok X G (c.fact 14 rfl), He.free_ok X G (c.fact 15 rfl)⟩
  have gl_LETTERS : Glob K mg "LETTERS" (.str "abc") := glob_str X G (SOk.dec (by decide +kernel)) (c.fact 16 rfl)
  have gl_MOST_CUT : Glob K mg "MOST_CUT" (.int 3) := glob_int X G (c.fact 17 rfl)
  have gl_MOST_WORD : Glob K mg "MOST_WORD" (.int 4) := glob_int X G (c.fact 18 rfl)
  have gl_MOST_ROW : Glob K mg "MOST_ROW" (.int 24) := glob_int X G (c.fact 19 rfl)
  have gl_MOST_CUTS : Glob K mg "MOST_CUTS" (.int 200) := glob_int X G (c.fact 20 rfl)
  have gl_MOST_LONG : Glob K mg "MOST_LONG" (.int 120) := glob_int X G (c.fact 21 rfl)
  have x_BadRules : ExcC K mg "BadRules" := exc_of X G (c.fact 22 rfl) (c.fact 23 rfl)
  have x_BadRow : ExcC K mg "BadRow" := exc_of X G (c.fact 24 rfl) (c.fact 25 rfl)
  have x_BadCount : ExcC K mg "BadCount" := exc_of X G (c.fact 26 rfl) (c.fact 27 rfl)
  have x_Ended : ExcC K mg "Ended" := exc_of X G (c.fact 28 rfl) (c.fact 29 rfl)
  have x_BadWord : ExcC K mg "BadWord" := exc_of X G (c.fact 30 rfl) (c.fact 31 rfl)
  have x_TooMany : ExcC K mg "TooMany" := exc_of X G (c.fact 32 rfl) (c.fact 33 rfl)
  have x_BadText : ExcC K mg "BadText" := exc_of X G (c.fact 34 rfl) (c.fact 35 rfl)
  have x_CutError : ExcC K mg "CutError" := exc_of X G (c.fact 36 rfl) (c.fact 37 rfl)
  have em__law_kinds_of : ExmT K mg ex__law_kinds_of ["CutError"] := ⟨by
    intro p hp h hh C C2 m1 m2
    simp only [ex__law_kinds_of, List.mem_cons, List.not_mem_nil, or_false] at hp hh
    rcases hp with rfl | rfl | rfl | rfl | rfl | rfl | rfl
    · rcases hh with rfl
      · exact exm_at X G (c.fact 22 rfl) (c.fact 36 rfl) (c.fact 38 rfl) m1 m2
    · rcases hh with rfl
      · exact exm_at X G (c.fact 24 rfl) (c.fact 36 rfl) (c.fact 39 rfl) m1 m2
    · rcases hh with rfl
      · exact exm_at X G (c.fact 26 rfl) (c.fact 36 rfl) (c.fact 40 rfl) m1 m2
    · rcases hh with rfl
      · exact exm_at X G (c.fact 28 rfl) (c.fact 36 rfl) (c.fact 41 rfl) m1 m2
    · rcases hh with rfl
      · exact exm_at X G (c.fact 30 rfl) (c.fact 36 rfl) (c.fact 42 rfl) m1 m2
    · rcases hh with rfl
      · exact exm_at X G (c.fact 32 rfl) (c.fact 36 rfl) (c.fact 43 rfl) m1 m2
    · rcases hh with rfl
      · exact exm_at X G (c.fact 34 rfl) (c.fact 36 rfl) (c.fact 44 rfl) m1 m2⟩
  have fr_ValueError : mg "ValueError" = none := He.free_ok X G (c.fact 45 rfl)
  have xi__law_kinds_of : XIs K mg ex__law_kinds_of ["BadWord", "BadCount", "BadRow", "BadRules", "BadText", "TooMany", "Ended"] := xis_of (by
    intro p hp
    simp only [ex__law_kinds_of, List.mem_cons, List.not_mem_nil, or_false] at hp
    rcases hp with rfl | rfl | rfl | rfl | rfl | rfl | rfl
    · exact He.glo_ok X G (c.fact 22 rfl)
    · exact He.glo_ok X G (c.fact 24 rfl)
    · exact He.glo_ok X G (c.fact 26 rfl)
    · exact He.glo_ok X G (c.fact 28 rfl)
    · exact He.glo_ok X G (c.fact 30 rfl)
    · exact He.glo_ok X G (c.fact 32 rfl)
    · exact He.glo_ok X G (c.fact 34 rfl)
    ) (by
    intro p hp
    simp only [List.mem_cons, List.not_mem_nil, or_false] at hp
    rcases hp with rfl | rfl | rfl | rfl | rfl | rfl | rfl
    · exact He.glo_ok X G (c.fact 30 rfl)
    · exact He.glo_ok X G (c.fact 26 rfl)
    · exact He.glo_ok X G (c.fact 24 rfl)
    · exact He.glo_ok X G (c.fact 22 rfl)
    · exact He.glo_ok X G (c.fact 34 rfl)
    · exact He.glo_ok X G (c.fact 32 rfl)
    · exact He.glo_ok X G (c.fact 28 rfl)
    ) (exK_x ex)
  obtain ⟨a__law_cell, fd__law_cell, F__law_cell, m__law_cell, b__law_cell, bt__law_cell⟩ := def_of X G (x := "_law_cell") (st := s__law_cell) (ps := ["script", "k"]) (d := d__law_cell) rfl (c.def_ 0 rfl) (c.fact 46 rfl) (c.fact 47 rfl) (fun _ _ _ _ _ _ us hl => match us, hl with | [_, _], _ => rfl)
  obtain ⟨a_is_within, fd_is_within, F_is_within, m_is_within, b_is_within, bt_is_within⟩ := def_of X G (x := "is_within") (st := s_is_within) (ps := ["thing", "low", "high"]) (d := d_is_within) rfl (c.def_ 1 rfl) (c.fact 48 rfl) (c.fact 49 rfl) (fun _ _ _ _ _ _ us hl => match us, hl with | [_, _, _], _ => rfl)
  obtain ⟨a_is_word, fd_is_word, F_is_word, m_is_word, b_is_word, bt_is_word⟩ := def_of X G (x := "is_word") (st := s_is_word) (ps := ["many", "thing", "most"]) (d := d_is_word) rfl (c.def_ 2 rfl) (c.fact 50 rfl) (c.fact 51 rfl) (fun _ _ _ _ _ _ us hl => match us, hl with | [_, _, _], _ => rfl)
  obtain ⟨a_is_rules, fd_is_rules, F_is_rules, m_is_rules, b_is_rules, bt_is_rules⟩ := def_of X G (x := "is_rules") (st := s_is_rules) (ps := ["thing"]) (d := d_is_rules) rfl (c.def_ 3 rfl) (c.fact 52 rfl) (c.fact 53 rfl) (fun _ _ _ _ _ _ us hl => match us, hl with | [_], _ => rfl)
  obtain ⟨a_look, fd_look, F_look, m_look, b_look, bt_look⟩ := def_of X G (x := "look") (st := s_look) (ps := ["rules"]) (d := d_look) rfl (c.def_ 4 rfl) (c.fact 54 rfl) (c.fact 55 rfl) (fun _ _ _ _ _ _ us hl => match us, hl with | [_], _ => rfl)
  obtain ⟨a_shown, fd_shown, F_shown, m_shown, b_shown, bt_shown⟩ := def_of X G (x := "shown") (st := s_shown) (ps := ["rules"]) (d := d_shown) rfl (c.def_ 5 rfl) (c.fact 56 rfl) (c.fact 57 rfl) (fun _ _ _ _ _ _ us hl => match us, hl with | [_], _ => rfl)
  obtain ⟨a_is_row, fd_is_row, F_is_row, m_is_row, b_is_row, bt_is_row⟩ := def_of X G (x := "is_row") (st := s_is_row) (ps := ["rules", "thing"]) (d := d_is_row) rfl (c.def_ 6 rfl) (c.fact 58 rfl) (c.fact 59 rfl) (fun _ _ _ _ _ _ us hl => match us, hl with | [_, _], _ => rfl)
  obtain ⟨a_look_row, fd_look_row, F_look_row, m_look_row, b_look_row, bt_look_row⟩ := def_of X G (x := "look_row") (st := s_look_row) (ps := ["rules", "row"]) (d := d_look_row) rfl (c.def_ 7 rfl) (c.fact 60 rfl) (c.fact 61 rfl) (fun _ _ _ _ _ _ us hl => match us, hl with | [_, _], _ => rfl)
  obtain ⟨a_word_of, fd_word_of, F_word_of, m_word_of, b_word_of, bt_word_of⟩ := def_of X G (x := "word_of") (st := s_word_of) (ps := ["rules", "letter"]) (d := d_word_of) rfl (c.def_ 8 rfl) (c.fact 62 rfl) (c.fact 63 rfl) (fun _ _ _ _ _ _ us hl => match us, hl with | [_, _], _ => rfl)
  obtain ⟨a_has_ended, fd_has_ended, F_has_ended, m_has_ended, b_has_ended, bt_has_ended⟩ := def_of X G (x := "has_ended") (st := s_has_ended) (ps := ["rules", "row"]) (d := d_has_ended) rfl (c.def_ 9 rfl) (c.fact 64 rfl) (c.fact 65 rfl) (fun _ _ _ _ _ _ us hl => match us, hl with | [_, _], _ => rfl)
  obtain ⟨a_times_of, fd_times_of, F_times_of, m_times_of, b_times_of, bt_times_of⟩ := def_of X G (x := "times_of") (st := s_times_of) (ps := ["part", "word"]) (d := d_times_of) rfl (c.def_ 10 rfl) (c.fact 66 rfl) (c.fact 67 rfl) (fun _ _ _ _ _ _ us hl => match us, hl with | [_, _], _ => rfl)
  obtain ⟨a_told_of, fd_told_of, F_told_of, m_told_of, b_told_of, bt_told_of⟩ := def_of X G (x := "told_of") (st := s_told_of) (ps := ["rules", "word"]) (d := d_told_of) rfl (c.def_ 11 rfl) (c.fact 68 rfl) (c.fact 69 rfl) (fun _ _ _ _ _ _ us hl => match us, hl with | [_, _], _ => rfl)
  obtain ⟨a_is_whole, fd_is_whole, F_is_whole, m_is_whole, b_is_whole, bt_is_whole⟩ := def_of X G (x := "is_whole") (st := s_is_whole) (ps := ["rules", "word"]) (d := d_is_whole) rfl (c.def_ 12 rfl) (c.fact 70 rfl) (c.fact 71 rfl) (fun _ _ _ _ _ _ us hl => match us, hl with | [_, _], _ => rfl)
  obtain ⟨a_share, fd_share, F_share, m_share, b_share, bt_share⟩ := def_of X G (x := "share") (st := s_share) (ps := ["rules", "part"]) (d := d_share) rfl (c.def_ 13 rfl) (c.fact 72 rfl) (c.fact 73 rfl) (fun _ _ _ _ _ _ us hl => match us, hl with | [_, _], _ => rfl)
  obtain ⟨a_part_of, fd_part_of, F_part_of, m_part_of, b_part_of, bt_part_of⟩ := def_of X G (x := "part_of") (st := s_part_of) (ps := ["rules", "row"]) (d := d_part_of) rfl (c.def_ 14 rfl) (c.fact 74 rfl) (c.fact 75 rfl) (fun _ _ _ _ _ _ us hl => match us, hl with | [_, _], _ => rfl)
  obtain ⟨a_next_of, fd_next_of, F_next_of, m_next_of, b_next_of, bt_next_of⟩ := def_of X G (x := "next_of") (st := s_next_of) (ps := ["rules", "row"]) (d := d_next_of) rfl (c.def_ 15 rfl) (c.fact 76 rfl) (c.fact 77 rfl) (fun _ _ _ _ _ _ us hl => match us, hl with | [_, _], _ => rfl)
  obtain ⟨a_fate_of, fd_fate_of, F_fate_of, m_fate_of, b_fate_of, bt_fate_of⟩ := def_of X G (x := "fate_of") (st := s_fate_of) (ps := ["rules", "row"]) (d := d_fate_of) rfl (c.def_ 16 rfl) (c.fact 78 rfl) (c.fact 79 rfl) (fun _ _ _ _ _ _ us hl => match us, hl with | [_, _], _ => rfl)
  obtain ⟨a_fate, fd_fate, F_fate, m_fate, b_fate, bt_fate⟩ := def_of X G (x := "fate") (st := s_fate) (ps := ["rules", "row"]) (d := d_fate) rfl (c.def_ 17 rfl) (c.fact 80 rfl) (c.fact 81 rfl) (fun _ _ _ _ _ _ us hl => match us, hl with | [_, _], _ => rfl)
  obtain ⟨a_after, fd_after, F_after, m_after, b_after, bt_after⟩ := def_of X G (x := "after") (st := s_after) (ps := ["rules", "row", "many"]) (d := d_after) rfl (c.def_ 18 rfl) (c.fact 82 rfl) (c.fact 83 rfl) (fun _ _ _ _ _ _ us hl => match us, hl with | [_, _, _], _ => rfl)
  obtain ⟨a_image, fd_image, F_image, m_image, b_image, bt_image⟩ := def_of X G (x := "image") (st := s_image) (ps := ["rules", "word"]) (d := d_image) rfl (c.def_ 19 rfl) (c.fact 84 rfl) (c.fact 85 rfl) (fun _ _ _ _ _ _ us hl => match us, hl with | [_, _], _ => rfl)
  obtain ⟨a_next_row, fd_next_row, F_next_row, m_next_row, b_next_row, bt_next_row⟩ := def_of X G (x := "next_row") (st := s_next_row) (ps := ["rules", "row"]) (d := d_next_row) rfl (c.def_ 20 rfl) (c.fact 86 rfl) (c.fact 87 rfl) (fun _ _ _ _ _ _ us hl => match us, hl with | [_, _], _ => rfl)
  obtain ⟨a_ahead_of, fd_ahead_of, F_ahead_of, m_ahead_of, b_ahead_of, bt_ahead_of⟩ := def_of X G (x := "ahead_of") (st := s_ahead_of) (ps := ["rules", "row"]) (d := d_ahead_of) rfl (c.def_ 21 rfl) (c.fact 88 rfl) (c.fact 89 rfl) (fun _ _ _ _ _ _ us hl => match us, hl with | [_, _], _ => rfl)
  obtain ⟨a_leading, fd_leading, F_leading, m_leading, b_leading, bt_leading⟩ := def_of X G (x := "leading") (st := s_leading) (ps := ["rules", "row", "many"]) (d := d_leading) rfl (c.def_ 22 rfl) (c.fact 90 rfl) (c.fact 91 rfl) (fun _ _ _ _ _ _ us hl => match us, hl with | [_, _, _], _ => rfl)
  obtain ⟨a_word_read, fd_word_read, F_word_read, m_word_read, b_word_read, bt_word_read⟩ := def_of X G (x := "word_read") (st := s_word_read) (ps := ["letter", "text"]) (d := d_word_read) rfl (c.def_ 23 rfl) (c.fact 92 rfl) (c.fact 93 rfl) (fun _ _ _ _ _ _ us hl => match us, hl with | [_, _], _ => rfl)
  obtain ⟨a_read, fd_read, F_read, m_read, b_read, bt_read⟩ := def_of X G (x := "read") (st := s_read) (ps := ["text"]) (d := d_read) rfl (c.def_ 24 rfl) (c.fact 94 rfl) (c.fact 95 rfl) (fun _ _ _ _ _ _ us hl => match us, hl with | [_], _ => rfl)
  obtain ⟨a__law_deeds_of, fd__law_deeds_of, F__law_deeds_of, m__law_deeds_of, b__law_deeds_of, bt__law_deeds_of⟩ := def_of X G (x := "_law_deeds_of") (st := s__law_deeds_of) (ps := ["kind"]) (d := d__law_deeds_of) rfl (c.def_ 25 rfl) (c.fact 96 rfl) (c.fact 97 rfl) (fun _ _ _ _ _ _ us hl => match us, hl with | [_], _ => rfl)
  obtain ⟨a__law_kinds_of, fd__law_kinds_of, F__law_kinds_of, m__law_kinds_of, b__law_kinds_of, bt__law_kinds_of⟩ := def_of X G (x := "_law_kinds_of") (st := s__law_kinds_of) (ps := ["kind"]) (d := d__law_kinds_of) rfl (c.def_ 26 rfl) (c.fact 98 rfl) (c.fact 99 rfl) (fun _ _ _ _ _ _ us hl => match us, hl with | [_], _ => rfl)
  obtain ⟨a_grows_by, fd_grows_by, F_grows_by, m_grows_by, b_grows_by, bt_grows_by⟩ := def_of X G (x := "grows_by") (st := s_grows_by) (ps := ["rules", "part"]) (d := d_grows_by) rfl (c.def_ 27 rfl) (c.fact 100 rfl) (c.fact 101 rfl) (fun _ _ _ _ _ _ us hl => match us, hl with | [_, _], _ => rfl)
  obtain ⟨a_root_of, fd_root_of, F_root_of, m_root_of, b_root_of, bt_root_of⟩ := def_of X G (x := "root_of") (st := s_root_of) (ps := ["word"]) (d := d_root_of) rfl (c.def_ 28 rfl) (c.fact 102 rfl) (c.fact 103 rfl) (fun _ _ _ _ _ _ us hl => match us, hl with | [_], _ => rfl)
  obtain ⟨a_root, fd_root, F_root, m_root, b_root, bt_root⟩ := def_of X G (x := "root") (st := s_root) (ps := ["rules", "word"]) (d := d_root) rfl (c.def_ 29 rfl) (c.fact 104 rfl) (c.fact 105 rfl) (fun _ _ _ _ _ _ us hl => match us, hl with | [_, _], _ => rfl)
  obtain ⟨a_law, fd_law, F_law, m_law, b_law, bt_law⟩ := def_of X G (x := "law") (st := s_law) (ps := ["script"]) (d := d_law) rfl (c.def_ 30 rfl) (c.fact 106 rfl) (c.fact 107 rfl) (fun _ _ _ _ _ _ us hl => match us, hl with | [_], _ => rfl)
  have e := hfa.symm.trans m_law
  cases e
  refine ⟨fd_law, bt_law, fun base _ _ => ?_⟩
  have h__law_cell : Ok P w K mg base "_law_cell" 1 ["script", "k"] M__law_cell := ok__law_cell F__law_cell m__law_cell b__law_cell bi 
  have h_is_within : Ok P w K mg base "is_within" 1 ["thing", "low", "high"] M_is_within := ok_is_within F_is_within m_is_within b_is_within bi 
  have h_is_word : Ok P w K mg base "is_word" 1 ["many", "thing", "most"] M_is_word := ok_is_word F_is_word m_is_word b_is_word bi gl_LETTERS
  have h_is_rules : Ok P w K mg base "is_rules" 2 ["thing"] M_is_rules := ok_is_rules F_is_rules m_is_rules b_is_rules bi gl_MOST_CUT gl_LETTERS gl_MOST_WORD h_is_within h_is_word
  have h_look : Ok P w K mg base "look" 3 ["rules"] M_look := ok_look F_look m_look b_look bi x_BadRules h_is_rules
  have h_shown : Ok P w K mg base "shown" 4 ["rules"] M_shown := ok_shown F_shown m_shown b_shown bi gl_LETTERS h_look
  have h_is_row : Ok P w K mg base "is_row" 2 ["rules", "thing"] M_is_row := ok_is_row F_is_row m_is_row b_is_row bi gl_MOST_ROW h_is_word
  have h_look_row : Ok P w K mg base "look_row" 4 ["rules", "row"] M_look_row := ok_look_row F_look_row m_look_row b_look_row bi x_BadRow h_look h_is_row
  have h_word_of : Ok P w K mg base "word_of" 1 ["rules", "letter"] M_word_of := ok_word_of F_word_of m_word_of b_word_of bi gl_LETTERS
  have h_has_ended : Ok P w K mg base "has_ended" 2 ["rules", "row"] M_has_ended := ok_has_ended F_has_ended m_has_ended b_has_ended bi h_word_of
  have h_times_of : Ok P w K mg base "times_of" 1 ["part", "word"] M_times_of := ok_times_of F_times_of m_times_of b_times_of bi 
  have h_told_of : Ok P w K mg base "told_of" 2 ["rules", "word"] M_told_of := ok_told_of F_told_of m_told_of b_told_of bi h_word_of
  have h_is_whole : Ok P w K mg base "is_whole" 2 ["rules", "word"] M_is_whole := ok_is_whole F_is_whole m_is_whole b_is_whole bi h_word_of
  have h_share : Ok P w K mg base "share" 3 ["rules", "part"] M_share := ok_share F_share m_share b_share bi h_is_whole h_times_of h_told_of
  have h_part_of : Ok P w K mg base "part_of" 4 ["rules", "row"] M_part_of := ok_part_of F_part_of m_part_of b_part_of bi h_times_of h_share
  have h_next_of : Ok P w K mg base "next_of" 2 ["rules", "row"] M_next_of := ok_next_of F_next_of m_next_of b_next_of bi h_word_of
  have h_fate_of : Ok P w K mg base "fate_of" 5 ["rules", "row"] M_fate_of := ok_fate_of F_fate_of m_fate_of b_fate_of bi gl_MOST_CUTS gl_MOST_LONG h_has_ended h_part_of h_next_of
  have h_fate : Ok P w K mg base "fate" 6 ["rules", "row"] M_fate := ok_fate F_fate m_fate b_fate bi h_look_row h_fate_of
  have h_after : Ok P w K mg base "after" 5 ["rules", "row", "many"] M_after := ok_after F_after m_after b_after bi x_BadCount x_Ended h_look_row h_is_within h_has_ended h_next_of
  have h_image : Ok P w K mg base "image" 5 ["rules", "word"] M_image := ok_image F_image m_image b_image bi x_BadWord h_look_row h_is_whole h_told_of
  have h_next_row : Ok P w K mg base "next_row" 5 ["rules", "row"] M_next_row := ok_next_row F_next_row m_next_row b_next_row bi x_Ended h_look_row h_has_ended h_next_of
  have h_ahead_of : Ok P w K mg base "ahead_of" 2 ["rules", "row"] M_ahead_of := ok_ahead_of F_ahead_of m_ahead_of b_ahead_of bi gl_LETTERS h_word_of
  have h_leading : Ok P w K mg base "leading" 5 ["rules", "row", "many"] M_leading := ok_leading F_leading m_leading b_leading bi x_BadCount x_TooMany h_look_row h_is_within h_ahead_of
  have h_word_read : Ok P w K mg base "word_read" 1 ["letter", "text"] M_word_read := ok_word_read F_word_read m_word_read b_word_read bi x_BadText
  have h_read : Ok P w K mg base "read" 3 ["text"] M_read := ok_read F_read m_read b_read bi gl_LETTERS x_BadText h_word_read h_is_rules
  have h__law_deeds_of : Ok P w K mg base "_law_deeds_of" 7 ["kind"] M__law_deeds_of := ok__law_deeds_of F__law_deeds_of m__law_deeds_of b__law_deeds_of bi h_shown h_fate h_after h_image h_next_row h_leading h_read
  have h__law_kinds_of : Ok P w K mg base "_law_kinds_of" 8 ["kind"] M__law_kinds_of := ok__law_kinds_of F__law_kinds_of m__law_kinds_of b__law_kinds_of bi x_CutError x_BadWord x_BadCount x_BadRow x_BadRules x_BadText x_TooMany x_Ended em__law_kinds_of xi__law_kinds_of fr_ValueError h__law_deeds_of
  have h_grows_by : Ok P w K mg base "grows_by" 5 ["rules", "part"] M_grows_by := ok_grows_by F_grows_by m_grows_by b_grows_by bi h_look_row h_share
  have h_root_of : Ok P w K mg base "root_of" 1 ["word"] M_root_of := ok_root_of F_root_of m_root_of b_root_of bi 
  have h_root : Ok P w K mg base "root" 5 ["rules", "word"] M_root := ok_root F_root m_root b_root bi h_look_row h_root_of
  exact ok_law F_law m_law b_law bi h__law_cell h__law_kinds_of h_fate h_grows_by h_root
end DL
open PySem PySem.W PySem.Calls PyProof.Rows
set_option maxRecDepth 100000 in
set_option maxHeartbeats 0 in
theorem PySem.Challenge.cw_frontcut_k12_refusals_stand_apart_holds : PySem.Challenge.rw_frontcut_k12_refusals_stand_apart.Holds := by
  w_on; o_law
  refine HandSHeadRun.head_any (r := OpenLaw.row PySem.Challenge.rw_frontcut_k12_refusals_stand_apart) (q := view (OpenLaw.row PySem.Challenge.rw_frontcut_k12_refusals_stand_apart).prog [50]) (H := DL.hk) (ob := DL.ob) (M := 6000) (loose := DL.looseN) (d := HandSHeadRun.topDef (OpenLaw.row PySem.Challenge.rw_frontcut_k12_refusals_stand_apart).prog 50) (kwd := []) DL.ob_eq
    (by kernel_rfl) (fun s => by kernel_rfl) DL.run (by kernel_rfl) (by kernel_rfl) (by kernel_rfl) (by rfl) (by first | assumption | decide +kernel) (by decide +kernel) ⟨rfl, rfl, rfl, rfl, rfl, by decide +kernel⟩ ?hw ?hc
  case hw => w_witness2
  case hc =>
    refine DL.walk_ofD (l := PySem.Challenge.rw_frontcut_k12_refusals_stand_apart) (n := 63) (k := 9) (x := "script") (CX := fun w => L2.CX PySem.Challenge.rw_frontcut_k12_refusals_stand_apart.prog w) rfl (by decide) (by kernel_rfl) ⟨rfl, by decide, by decide⟩ ?F (fun _ _ _ _ _ z => DL.cx_no z)
    intro w mg fa h Y G hmg0
    obtain ⟨K, KX, c, nl⟩ := Y
    have hmg : mg ("law" : PySem.Str) = some (.ref fa) := by
      have e : (HandSHeadRun.topDef (OpenLaw.row PySem.Challenge.rw_frontcut_k12_refusals_stand_apart).prog 50).name = ("law" : PySem.Str) := by kernel_rfl
      rw [← e]
      exact hmg0
    obtain ⟨fd, sp, h1, h2, h3⟩ := DL.law_end (DL.exK_nl nl) hmg (DL.all_ok (P := (PySem.Challenge.rw_frontcut_k12_refusals_stand_apart).prog) (w := w) KX G hmg c nl) DL.law_true
    exact ⟨K, fd, sp, KX, h1, h2, h3⟩
