/- The steps' equations as one theorem: what a walk rewrites by. -/
import Derived.Test.YtanhmbdcdbcfmaaMaps
set_option linter.unusedVariables false
set_option maxRecDepth 20000
namespace Go.Sl
open Go
theorem S :
  (∀ (e : Go.Sl.Env) (d : Go.Tmp) (v : Go.Value) (t : Go.Tmp), Go.Sl.Env.put e (Option.some d) v t = if t = d then v else e t) ∧
  (∀ (e : Go.Sl.Env) (v : Go.Value), Go.Sl.Env.put e Option.none v = e) ∧
  (∀ {P : Go.Program} {G : Go.Sl.Hp} {x y : Go.Code} {Q : Go.Sl.Post} {e : Go.Sl.Env} {H : Go.Sl.Hp}, Go.Sl.cl P G (Go.Code.seq x y) Q e H = Go.Sl.cl P G x (Go.Sl.thenH (Go.Sl.cl P G y Q) Q) e H) ∧
  (∀ {P : Go.Program} {G : Go.Sl.Hp} {i : Nat} {ops : Array Go.Oper} {Q : Go.Sl.Post} {e : Go.Sl.Env} {H : Go.Sl.Hp}, Go.Sl.cl P G (Go.Code.region i ops Bool.false) Q e H = Go.Sl.cList P G ops Q (Array.toList ops) e H) ∧
  (∀ {P : Go.Program} {G : Go.Sl.Hp} {Q : Go.Sl.Post} {e : Go.Sl.Env} {H : Go.Sl.Hp}, Go.Sl.cl P G Go.Code.ret Q e H = Q Go.Sl.Out.ret e H) ∧
  (∀ {P : Go.Program} {G : Go.Sl.Hp} {Q : Go.Sl.Post} {e : Go.Sl.Env} {H : Go.Sl.Hp}, Go.Sl.cl P G Go.Code.skip Q e H = Q Go.Sl.Out.normal e H) ∧
  (∀ {P : Go.Program} {G : Go.Sl.Hp} {i : Nat} {x : Go.Code} {Q : Go.Sl.Post} {e : Go.Sl.Env} {H : Go.Sl.Hp}, Go.Sl.cl P G (Go.Code.block i x) Q e H = Go.Sl.cl P G x (Go.Sl.blockH i Q) e H) ∧
  (∀ {P : Go.Program} {G : Go.Sl.Hp} {i : Nat} {Q : Go.Sl.Post} {e : Go.Sl.Env} {H : Go.Sl.Hp}, Go.Sl.cl P G (Go.Code.exit i) Q e H = Q (Go.Sl.Out.exit i) e H) ∧
  (∀ {A B : Unit → Prop}, Go.Sl.Gate True A B = A ()) ∧
  (∀ {A B : Unit → Prop}, Go.Sl.Gate False A B = B ()) ∧
  (∀ {t : Bool} {A B : Unit → Prop}, Go.Sl.BGate (Go.Value.bool t) A B = Go.Sl.Gate (t = Bool.true) A B) ∧
  (∀ {P : Go.Program} {G : Go.Sl.Hp} {c : Go.Operand} {x y : Go.Code} {Q : Go.Sl.Post} {e : Go.Sl.Env} {H : Go.Sl.Hp}, Go.Sl.cl P G (Go.Code.cond c x y) Q e H = Go.Sl.BGate (Go.Sl.Env.ev e c) (Go.Sl.clU P G x Q e H) (Go.Sl.clU P G y Q e H)) ∧
  (∀ {n : Go.Sl.Env → Go.Sl.Hp → Prop} {Q : Go.Sl.Post} {e : Go.Sl.Env} {H : Go.Sl.Hp}, Go.Sl.thenH n Q Go.Sl.Out.normal e H = n e H) ∧
  (∀ {n : Go.Sl.Env → Go.Sl.Hp → Prop} {Q : Go.Sl.Post} {e : Go.Sl.Env} {H : Go.Sl.Hp}, Go.Sl.thenH n Q Go.Sl.Out.ret e H = Q Go.Sl.Out.ret e H) ∧
  (∀ {n : Go.Sl.Env → Go.Sl.Hp → Prop} {Q : Go.Sl.Post} {e : Go.Sl.Env} {H : Go.Sl.Hp} {i : Nat}, Go.Sl.thenH n Q (Go.Sl.Out.exit i) e H = Q (Go.Sl.Out.exit i) e H) ∧
  (∀ {Q : Go.Sl.Post} {e : Go.Sl.Env} {H : Go.Sl.Hp} {i : Nat}, Go.Sl.blockH i Q Go.Sl.Out.normal e H = Q Go.Sl.Out.normal e H) ∧
  (∀ {Q : Go.Sl.Post} {e : Go.Sl.Env} {H : Go.Sl.Hp} {i : Nat}, Go.Sl.blockH i Q Go.Sl.Out.ret e H = Q Go.Sl.Out.ret e H) ∧
  (∀ {Q : Go.Sl.Post} {e : Go.Sl.Env} {H : Go.Sl.Hp} {i j : Nat}, Go.Sl.blockH i Q (Go.Sl.Out.exit j) e H = if j = i then Q Go.Sl.Out.normal e H else Q (Go.Sl.Out.exit j) e H) ∧
  (∀ {P : Go.Program} {G : Go.Sl.Hp} {ops : Array Go.Oper} {Q : Go.Sl.Post} {e : Go.Sl.Env} {H : Go.Sl.Hp}, Go.Sl.cList P G ops Q [] e H = Q Go.Sl.Out.normal e H) ∧
  (∀ {P : Go.Program} {G : Go.Sl.Hp} {ops : Array Go.Oper} {Q : Go.Sl.Post} {e : Go.Sl.Env} {H : Go.Sl.Hp} {d : Option Go.Tmp} {op : Go.Op} {ty : Go.TypeId} {p : String} {af : Array Go.Edge} {l : List Go.Oper}, Go.Sl.isRd op = Bool.true → Go.Sl.cList P G ops Q (Go.Oper.mk d op ty p af Option.none :: l) e H = Go.Sl.Ex (Go.Sl.rd P (Go.Sl.Hp.un H G) (Go.execOp (Go.Sl.Env.ev e) (Go.Oper.mk d op ty p af Option.none))) (Go.Sl.cLK P G ops Q l e d H)) ∧
  (∀ {P : Go.Program} {G : Go.Sl.Hp} {ops : Array Go.Oper} {Q : Go.Sl.Post} {e : Go.Sl.Env} {H : Go.Sl.Hp} {d : Option Go.Tmp} {op : Go.Op} {ty : Go.TypeId} {p : String} {af : Array Go.Edge} {l : List Go.Oper}, Go.Sl.isRd op = Bool.false → Go.Sl.cList P G ops Q (Go.Oper.mk d op ty p af Option.none :: l) e H = Go.Sl.opV P G (Go.execOp (Go.Sl.Env.ev e) (Go.Oper.mk d op ty p af Option.none)) H (Go.Sl.cLX P G ops Q l e d)) ∧
  (∀ {P : Go.Program} {G : Go.Sl.Hp} {ops : Array Go.Oper} {Q : Go.Sl.Post} {e : Go.Sl.Env} {H : Go.Sl.Hp} {d : Option Go.Tmp} {op : Go.Op} {ty : Go.TypeId} {p : String} {af : Array Go.Edge} {l : List Go.Oper} {j : Nat} {b : Bool}, Go.Sl.cList P G ops Q (Go.Oper.mk d op ty p af (Option.some (j, b)) :: l) e H = Go.Sl.Gate (Go.Sl.yieldE ops e j = Option.some b) (Go.Sl.cLU P G ops Q (Go.Oper.mk d op ty p af Option.none :: l) e H) (Go.Sl.cLU P G ops Q l (Go.Sl.Env.put e d Go.undef) H)) ∧
  (∀ {ops : Array Go.Oper} {e : Go.Sl.Env} {j : Nat}, Go.Sl.yieldE ops e j = match Option.bind ops[j]? fun (x : Go.Oper) => Go.Oper.dst x with | Option.some t => Go.Sl.yv (e t) | Option.none => Option.none) ∧
  (∀ {P : Go.Program} {G : Go.Sl.Hp} {rs : List Go.ResultVar} {R : Go.Ending → Go.Sl.Hp → Prop} {e : Go.Sl.Env} {H : Go.Sl.Hp}, Go.Sl.endH P G rs R Go.Sl.Out.ret e H = Go.Sl.resEs P G e H rs [] fun (vs : List Go.Value) => R (Go.Ending.returned (Go.Sl.tuple1 vs)) H) ∧
  (∀ {P : Go.Program} {G : Go.Sl.Hp} {rs : List Go.ResultVar} {R : Go.Ending → Go.Sl.Hp → Prop} {e : Go.Sl.Env} {H : Go.Sl.Hp}, Go.Sl.endH P G rs R Go.Sl.Out.normal e H = Go.Sl.resEs P G e H rs [] fun (vs : List Go.Value) => R (Go.Ending.returned (Go.Sl.tuple1 vs)) H) ∧
  (∀ {P : Go.Program} {G : Go.Sl.Hp} {e : Go.Sl.Env} {H : Go.Sl.Hp} {acc : List Go.Value} {k : List Go.Value → Prop}, Go.Sl.resEs P G e H [] acc k = k acc) ∧
  (∀ {P : Go.Program} {G : Go.Sl.Hp} {e : Go.Sl.Env} {H : Go.Sl.Hp} {t : Go.Tmp} {rs : List Go.ResultVar} {acc : List Go.Value} {k : List Go.Value → Prop}, Go.Sl.resEs P G e H (Go.ResultVar.tmp t :: rs) acc k = Go.Sl.resEs P G e H rs (acc ++ [e t]) k) ∧
  (∀ {P : Go.Program} {G : Go.Sl.Hp} {ops : Array Go.Oper} {Q : Go.Sl.Post} {e : Go.Sl.Env} {H : Go.Sl.Hp} {an : List Go.Sl.Note} {i : Nat} {hs : List (Nat × Go.Sl.Hp)}, Go.Sl.qv P G ops Q [] an i e H hs = Q Go.Sl.Out.normal e H) ∧
  (∀ {P : Go.Program} {G : Go.Sl.Hp} {ops : Array Go.Oper} {Q : Go.Sl.Post} {e : Go.Sl.Env} {H : Go.Sl.Hp} {d : Option Go.Tmp} {l : List Go.Oper} {an : List Go.Sl.Note} {i : Nat} {hs : List (Nat × Go.Sl.Hp)} {v : Go.Value}, Go.Sl.qK P G ops Q l an i e d H hs v = Go.Sl.qv P G ops Q l an i (Go.Sl.Env.put e d v) H hs) ∧
  (∀ {P : Go.Program} {G : Go.Sl.Hp} {ops : Array Go.Oper} {Q : Go.Sl.Post} {e : Go.Sl.Env} {H : Go.Sl.Hp} {d : Option Go.Tmp} {l : List Go.Oper} {an : List Go.Sl.Note} {i : Nat} {hs : List (Nat × Go.Sl.Hp)} {ob : Go.Obj} {f : Nat → Option Go.Next} {b : Nat}, Go.Sl.qN P G ops Q l an i e d H hs ob f b = Go.Sl.Ex (f b) (Go.Sl.qK P G ops Q l an i e d (Go.Sl.Hp.set H b ob) hs)) ∧
  (∀ {P : Go.Program} {G : Go.Sl.Hp} {ops : Array Go.Oper} {Q : Go.Sl.Post} {e : Go.Sl.Env} {H : Go.Sl.Hp} {d : Option Go.Tmp} {l : List Go.Oper} {an : List Go.Sl.Note} {i : Nat} {hs : List (Nat × Go.Sl.Hp)} {ob : Go.Obj} {f : Nat → Option Go.Next}, Go.Sl.qM P G ops Q l an i e d H hs ob f = Go.Sl.New H G (Go.Sl.qN P G ops Q l an i e d H hs ob f)) ∧
  (∀ {P : Go.Program} {G : Go.Sl.Hp} {ops : Array Go.Oper} {Q : Go.Sl.Post} {e : Go.Sl.Env} {d : Option Go.Tmp} {l : List Go.Oper} {an : List Go.Sl.Note} {i : Nat} {hs : List (Nat × Go.Sl.Hp)} {v : Go.Value} {H' : Go.Sl.Hp}, Go.Sl.qX P G ops Q l an [] i e d hs v H' = Go.Sl.qv P G ops Q l an (i + (1 : Nat)) (Go.Sl.Env.put e d v) H' ((i, H') :: hs)) ∧
  (∀ {P : Go.Program} {G : Go.Sl.Hp} {ops : Array Go.Oper} {Q : Go.Sl.Post} {e : Go.Sl.Env} {d : Option Go.Tmp} {l : List Go.Oper} {an : List Go.Sl.Note} {i : Nat} {hs : List (Nat × Go.Sl.Hp)} {ns : List Nat} {v : Go.Value} {H' : Go.Sl.Hp} {n : Nat}, Go.Sl.qX P G ops Q l an (n :: ns) i e d hs v H' = ((Go.Sl.wantE ops e (Go.Sl.opAt ops n) = Bool.true → Go.Sl.rd P (Go.Sl.Hp.un H' G) (Go.execOp (Go.Sl.Env.ev e) (Go.Sl.opAt ops n)) = Option.some (Go.Next.value (match Go.Oper.dst (Go.Sl.opAt ops n) with | Option.some d => e d | Option.none => Go.undef))) ∧ Go.Sl.qX P G ops Q l an ns i e d hs v H')) ∧
  (∀ {P : Go.Program} {G : Go.Sl.Hp} {ops : Array Go.Oper} {Q : Go.Sl.Post} {e : Go.Sl.Env} {H : Go.Sl.Hp} {l : List Go.Oper} {an : List Go.Sl.Note} {i : Nat} {hs : List (Nat × Go.Sl.Hp)} {u : Unit}, Go.Sl.qU P G ops Q l an i e H hs u = Go.Sl.qv P G ops Q l an i e H hs) ∧
  (∀ {P : Go.Program} {G : Go.Sl.Hp} {ops : Array Go.Oper} {Q : Go.Sl.Post} {l : List Go.Oper} {e : Go.Sl.Env} {d : Option Go.Tmp} {H : Go.Sl.Hp} {v : Go.Value}, Go.Sl.cLK P G ops Q l e d H v = Go.Sl.cList P G ops Q l (Go.Sl.Env.put e d v) H) ∧
  (∀ {P : Go.Program} {G : Go.Sl.Hp} {ops : Array Go.Oper} {Q : Go.Sl.Post} {l : List Go.Oper} {e : Go.Sl.Env} {d : Option Go.Tmp} {H : Go.Sl.Hp} {v : Go.Value}, Go.Sl.cLX P G ops Q l e d v H = Go.Sl.cList P G ops Q l (Go.Sl.Env.put e d v) H) ∧
  (∀ {P : Go.Program} {G : Go.Sl.Hp} {ops : Array Go.Oper} {Q : Go.Sl.Post} {l : List Go.Oper} {e : Go.Sl.Env} {H : Go.Sl.Hp} {u : Unit}, Go.Sl.cLU P G ops Q l e H u = Go.Sl.cList P G ops Q l e H) ∧
  (∀ {P : Go.Program} {G : Go.Sl.Hp} {c : Go.Code} {Q : Go.Sl.Post} {e : Go.Sl.Env} {H : Go.Sl.Hp} {u : Unit}, Go.Sl.clU P G c Q e H u = Go.Sl.cl P G c Q e H) ∧
  (∀ {K : Go.Value → Prop} {a : Go.Value} {u : Unit}, Go.Sl.apU K a u = K a) ∧
  (∀ {K : Go.Value → Go.Sl.Hp → Prop} {H : Go.Sl.Hp} {f : Nat → Go.Value} {ob : Go.Obj} {b : Nat}, Go.Sl.nwK K H f ob b = K (f b) (Go.Sl.Hp.set H b ob)) ∧
  (∀ {K : Go.Value → Go.Sl.Hp → Prop} {H : Go.Sl.Hp} {v : Go.Value}, Go.Sl.exK K H v = K v H) ∧
  (∀ {c : Prop} {A B : Unit → Prop}, Go.Sl.Gate (¬c) A B = Go.Sl.Gate c B A) ∧
  (∀ {P : Go.Program} {G : Go.Sl.Hp} {ops : Array Go.Oper} {Q : Go.Sl.Post} {e : Go.Sl.Env} {H : Go.Sl.Hp} {d : Option Go.Tmp} {op : Go.Op} {ty : Go.TypeId} {p : String} {af : Array Go.Edge} {l : List Go.Oper} {an : List Go.Sl.Note} {i : Nat} {hs : List (Nat × Go.Sl.Hp)} {ns : List Nat}, Go.Sl.qv P G ops Q (Go.Oper.mk d op ty p af Option.none :: l) (((0 : Nat), ns) :: an) i e H hs = Go.Sl.Ex (Go.Sl.rd P Go.Sl.Hp.emp (Go.execOp (Go.Sl.Env.ev e) (Go.Oper.mk d op ty p af Option.none))) (Go.Sl.qK P G ops Q l an (i + (1 : Nat)) e d H hs)) ∧
  (∀ {P : Go.Program} {G : Go.Sl.Hp} {ops : Array Go.Oper} {Q : Go.Sl.Post} {e : Go.Sl.Env} {H : Go.Sl.Hp} {d : Option Go.Tmp} {op : Go.Op} {ty : Go.TypeId} {p : String} {af : Array Go.Edge} {l : List Go.Oper} {an : List Go.Sl.Note} {i : Nat} {hs : List (Nat × Go.Sl.Hp)} {ns : List Nat}, Go.Sl.qv P G ops Q (Go.Oper.mk d op ty p af Option.none :: l) (((1 : Nat), ns) :: an) i e H hs = Go.Sl.Each (Go.Sl.relA ns hs) (fun (h : Go.Sl.Hp) => Go.Sl.rd P (Go.Sl.Hp.un h G) (Go.execOp (Go.Sl.Env.ev e) (Go.Oper.mk d op ty p af Option.none))) (Go.Sl.qK P G ops Q l an (i + (1 : Nat)) e d H hs)) ∧
  (∀ {P : Go.Program} {G : Go.Sl.Hp} {ops : Array Go.Oper} {Q : Go.Sl.Post} {e : Go.Sl.Env} {H : Go.Sl.Hp} {d : Option Go.Tmp} {op : Go.Op} {ty : Go.TypeId} {p : String} {af : Array Go.Edge} {l : List Go.Oper} {an : List Go.Sl.Note} {i : Nat} {hs : List (Nat × Go.Sl.Hp)} {ns : List Nat}, Go.Sl.qv P G ops Q (Go.Oper.mk d op ty p af Option.none :: l) (((2 : Nat), ns) :: an) i e H hs = Go.Sl.ExN (Go.Sl.nw P (Go.execOp (Go.Sl.Env.ev e) (Go.Oper.mk d op ty p af Option.none))) (Go.Sl.qM P G ops Q l an (i + (1 : Nat)) e d H hs)) ∧
  (∀ {P : Go.Program} {G : Go.Sl.Hp} {ops : Array Go.Oper} {Q : Go.Sl.Post} {e : Go.Sl.Env} {H : Go.Sl.Hp} {d : Option Go.Tmp} {op : Go.Op} {ty : Go.TypeId} {p : String} {af : Array Go.Edge} {l : List Go.Oper} {an : List Go.Sl.Note} {i : Nat} {hs : List (Nat × Go.Sl.Hp)} {ns : List Nat}, Go.Sl.qv P G ops Q (Go.Oper.mk d op ty p af Option.none :: l) (((3 : Nat), ns) :: an) i e H hs = Go.Sl.opV P G (Go.execOp (Go.Sl.Env.ev e) (Go.Oper.mk d op ty p af Option.none)) H (Go.Sl.qX P G ops Q l an ns i e d hs)) ∧
  (∀ {P : Go.Program} {G : Go.Sl.Hp} {ops : Array Go.Oper} {Q : Go.Sl.Post} {e : Go.Sl.Env} {H : Go.Sl.Hp} {d : Option Go.Tmp} {op : Go.Op} {ty : Go.TypeId} {p : String} {af : Array Go.Edge} {l : List Go.Oper} {an : List Go.Sl.Note} {i : Nat} {hs : List (Nat × Go.Sl.Hp)} {ns : List Nat} {j : Nat} {b : Bool} {k : Nat}, Go.Sl.qv P G ops Q (Go.Oper.mk d op ty p af (Option.some (j, b)) :: l) ((k, ns) :: an) i e H hs = Go.Sl.Gate (Go.Sl.yieldE ops e j = Option.some b) (Go.Sl.qU P G ops Q (Go.Oper.mk d op ty p af Option.none :: l) ((k, ns) :: an) i e H hs) (Go.Sl.qU P G ops Q l an (i + (1 : Nat)) (Go.Sl.Env.put e d Go.undef) H hs)) ∧
  (∀ {ns : List Nat}, Go.Sl.relA ns [] = []) ∧
  (∀ {ns : List Nat} {j : Nat} {h : Go.Sl.Hp} {t : List (Nat × Go.Sl.Hp)}, Go.Sl.relA ns ((j, h) :: t) = if List.contains ns j = Bool.true then [h] else h :: Go.Sl.relA ns t) ∧
  (∀ {x : Go.Operand}, Go.Sl.isRd (Go.Op.move x) = Bool.true) ∧
  (∀ {x : Go.Operand}, Go.Sl.isRd (Go.Op.assign x) = Bool.true) ∧
  (∀ {a b c : Go.Operand}, Go.Sl.isRd (Go.Op.pick a b c) = Bool.true) ∧
  (∀ {x : Go.Operand}, Go.Sl.isRd (Go.Op.nilCheck x) = Bool.true) ∧
  (∀ {t : Go.TypeId} {x : Go.Operand}, Go.Sl.isRd (Go.Op.load t x) = Bool.true) ∧
  (∀ {t : Go.TypeId} {x : Go.Operand} {f : Nat}, Go.Sl.isRd (Go.Op.field t x f) = Bool.true) ∧
  (∀ {t : Go.TypeId} {x : Go.Operand} {f : Nat}, Go.Sl.isRd (Go.Op.fieldAddr t x f) = Bool.true) ∧
  (∀ {t : Go.TypeId} {x i : Go.Operand}, Go.Sl.isRd (Go.Op.index t x i) = Bool.true) ∧
  (∀ {t : Go.TypeId} {x i : Go.Operand}, Go.Sl.isRd (Go.Op.indexAddr t x i) = Bool.true) ∧
  (∀ {t : Go.TypeId} {x : Go.Operand} {l h m : Option Go.Operand}, Go.Sl.isRd (Go.Op.slice t x l h m) = Bool.true) ∧
  (∀ {x : Go.Operand} {i : Nat}, Go.Sl.isRd (Go.Op.extract x i) = Bool.true) ∧
  (∀ {t : Go.TypeId} {ps : Array (Nat × Go.Operand)}, Go.Sl.isRd (Go.Op.build t ps) = Bool.true) ∧
  (∀ {o : Go.BinOp} {t : Go.TypeId} {x y : Go.Operand} {u : Go.TypeId}, Go.Sl.isRd (Go.Op.binOp o t x y u) = Bool.true) ∧
  (∀ {o : Go.UnOp} {t : Go.TypeId} {x : Go.Operand}, Go.Sl.isRd (Go.Op.unOp o t x) = Bool.true) ∧
  (∀ {t : Go.TypeId} {x : Go.Operand}, Go.Sl.isRd (Go.Op.makeInterface t x) = Bool.true) ∧
  (∀ {f : Go.Fn} {a b : Array Go.Operand}, Go.Sl.isRd (Go.Op.makeFunc f a b) = Bool.true) ∧
  (∀ {t : Go.TypeId} {x i : Go.Operand} {c : Bool}, Go.Sl.isRd (Go.Op.lookup t x i c) = Bool.true) ∧
  (∀ {t : Go.TypeId} {x y : Go.Operand}, Go.Sl.isRd (Go.Op.store t x y) = Bool.false) ∧
  (∀ {t : Go.TypeId}, Go.Sl.isRd (Go.Op.alloc t) = Bool.false) ∧
  (∀ {t : Go.TypeId} {x : Go.Operand}, Go.Sl.isRd (Go.Op.box t x) = Bool.false) ∧
  (∀ {t : Go.TypeId} {n : Nat} {ps : Array (Nat × Go.Operand)}, Go.Sl.isRd (Go.Op.buildSlice t n ps) = Bool.false) ∧
  (∀ {a b : Go.TypeId} {x : Go.Operand}, Go.Sl.isRd (Go.Op.convert a b x) = Bool.false) ∧
  (∀ {t : Go.TypeId} {r : Option Go.Operand}, Go.Sl.isRd (Go.Op.makeMap t r) = Bool.false) ∧
  (∀ {t : Go.TypeId} {a b : Go.Operand}, Go.Sl.isRd (Go.Op.makeSlice t a b) = Bool.false) ∧
  (∀ {t : Go.TypeId} {a b c : Go.Operand}, Go.Sl.isRd (Go.Op.mapUpdate t a b c) = Bool.false) ∧
  (∀ {t : Go.TypeId} {a b c : Go.Operand}, Go.Sl.isRd (Go.Op.insert t a b c) = Bool.false) ∧
  (∀ {t : Go.TypeId} {a b : Go.Operand}, Go.Sl.isRd (Go.Op.mapEntry t a b) = Bool.false) ∧
  (∀ {t : Go.TypeId} {a b c : Go.Operand}, Go.Sl.isRd (Go.Op.entryStore t a b c) = Bool.false) ∧
  (∀ {t : Go.TypeId} {x : Go.Operand}, Go.Sl.isRd (Go.Op.range t x) = Bool.false) ∧
  (∀ {x : Go.Operand} {b : Bool}, Go.Sl.isRd (Go.Op.next x b) = Bool.false) ∧
  (∀ {x : Go.Operand}, Go.Sl.isRd (Go.Op.entry x) = Bool.false) ∧
  (∀ {a : Go.Operand} {b c : Go.TypeId} {x : Bool}, Go.Sl.isRd (Go.Op.typeAssert a b c x) = Bool.false) ∧
  (∀ {a : Array Go.Operand} {t : Array Go.TypeId}, Go.Sl.isRd (Go.Op.call (Go.Call.mk (Go.Callee.builtin Go.Builtin.len) a t)) = Bool.true) ∧
  (∀ {a : Array Go.Operand} {t : Array Go.TypeId}, Go.Sl.isRd (Go.Op.call (Go.Call.mk (Go.Callee.builtin Go.Builtin.min) a t)) = Bool.true) ∧
  (∀ {a : Array Go.Operand} {t : Array Go.TypeId}, Go.Sl.isRd (Go.Op.call (Go.Call.mk (Go.Callee.builtin Go.Builtin.max) a t)) = Bool.true) ∧
  (∀ {a : Array Go.Operand} {t : Array Go.TypeId}, Go.Sl.isRd (Go.Op.call (Go.Call.mk (Go.Callee.builtin Go.Builtin.append) a t)) = Bool.false) ∧
  (∀ {a : Array Go.Operand} {t : Array Go.TypeId}, Go.Sl.isRd (Go.Op.call (Go.Call.mk (Go.Callee.builtin Go.Builtin.copy) a t)) = Bool.false) ∧
  (∀ {a : Array Go.Operand} {t : Array Go.TypeId}, Go.Sl.isRd (Go.Op.call (Go.Call.mk (Go.Callee.builtin Go.Builtin.delete) a t)) = Bool.false) ∧
  (∀ {a : Array Go.Operand} {t : Array Go.TypeId}, Go.Sl.isRd (Go.Op.call (Go.Call.mk (Go.Callee.builtin Go.Builtin.clear) a t)) = Bool.false) ∧
  (∀ {f : Go.Operand} {a : Array Go.Operand} {t : Array Go.TypeId}, Go.Sl.isRd (Go.Op.call (Go.Call.mk (Go.Callee.value f) a t)) = Bool.false) ∧
  (∀ (v : Go.Value), Go.Sl.vl (Option.some v) = Option.some (Go.Next.value v)) ∧
  (Go.Sl.vl Option.none = Option.none) ∧
  (∀ {P : Go.Program} {R : Go.Sl.Hp} {e : Go.Sl.Env} {d : Option Go.Tmp} {ty : Go.TypeId} {p : String} {af : Array Go.Edge} {g : Option (Nat × Bool)} (x : Go.Operand), Go.Sl.rd P R (Go.execOp (Go.Sl.Env.ev e) (Go.Oper.mk d (Go.Op.move x) ty p af g)) = Option.some (Go.Next.value (Go.Sl.Env.ev e x))) ∧
  (∀ {P : Go.Program} {R : Go.Sl.Hp} {e : Go.Sl.Env} {d : Option Go.Tmp} {ty : Go.TypeId} {p : String} {af : Array Go.Edge} {g : Option (Nat × Bool)} (x : Go.Operand), Go.Sl.rd P R (Go.execOp (Go.Sl.Env.ev e) (Go.Oper.mk d (Go.Op.assign x) ty p af g)) = Option.some (Go.Next.value (Go.Sl.Env.ev e x))) ∧
  (∀ {P : Go.Program} {R : Go.Sl.Hp} {e : Go.Sl.Env} {d : Option Go.Tmp} {ty : Go.TypeId} {p : String} {af : Array Go.Edge} {g : Option (Nat × Bool)} (c a b : Go.Operand), Go.Sl.rd P R (Go.execOp (Go.Sl.Env.ev e) (Go.Oper.mk d (Go.Op.pick c a b) ty p af g)) = Go.Sl.rPick (Go.Sl.Env.ev e c) (Go.Sl.Env.ev e a) (Go.Sl.Env.ev e b)) ∧
  (∀ (a b : Go.Value), Go.Sl.rPick (Go.Value.bool Bool.true) a b = Option.some (Go.Next.value a)) ∧
  (∀ (a b : Go.Value), Go.Sl.rPick (Go.Value.bool Bool.false) a b = Option.some (Go.Next.value b)) ∧
  (∀ {t : Bool} {a b : Go.Value} {K : Go.Value → Prop}, Go.Sl.Ex (Go.Sl.rPick (Go.Value.bool t) a b) K = Go.Sl.Gate (t = Bool.true) (Go.Sl.apU K a) (Go.Sl.apU K b)) ∧
  (∀ {P : Go.Program} {R : Go.Sl.Hp} {e : Go.Sl.Env} {d : Option Go.Tmp} {ty : Go.TypeId} {p : String} {af : Array Go.Edge} {g : Option (Nat × Bool)} (x : Go.Operand), Go.Sl.rd P R (Go.execOp (Go.Sl.Env.ev e) (Go.Oper.mk d (Go.Op.nilCheck x) ty p af g)) = Go.Sl.rNil P R (Go.Sl.Env.ev e x)) ∧
  (∀ {P : Go.Program} {R : Go.Sl.Hp} (a : Go.Addr), Go.Sl.rNil P R (Go.Value.pointer (Option.some a)) = Option.some (Go.Next.value (Go.Value.pointer (Option.some a)))) ∧
  (∀ {P : Go.Program} {R : Go.Sl.Hp} (f : Go.FuncId) (a b : Array Go.Value), Go.Sl.rNil P R (Go.Value.func (Go.Fn.func f) a b) = Option.some (Go.Next.value (Go.Value.func (Go.Fn.func f) a b))) ∧
  (∀ {P : Go.Program} {R : Go.Sl.Hp} {e : Go.Sl.Env} {d : Option Go.Tmp} {ty : Go.TypeId} {p : String} {af : Array Go.Edge} {g : Option (Nat × Bool)} (t : Go.TypeId) (x : Go.Operand), Go.Sl.rd P R (Go.execOp (Go.Sl.Env.ev e) (Go.Oper.mk d (Go.Op.load t x) ty p af g)) = Go.Sl.rLoad P R t (Go.Sl.Env.ev e x)) ∧
  (∀ {P : Go.Program} {R : Go.Sl.Hp} (t : Go.TypeId) (a : Go.Addr), Go.Sl.rLoad P R t (Go.Value.pointer (Option.some a)) = Go.Sl.vl (Go.Sl.ldV P R t a)) ∧
  (∀ {P : Go.Program} {R : Go.Sl.Hp} {e : Go.Sl.Env} {d : Option Go.Tmp} {ty : Go.TypeId} {p : String} {af : Array Go.Edge} {g : Option (Nat × Bool)} (s : Go.TypeId) (x : Go.Operand) (f : Nat), Go.Sl.rd P R (Go.execOp (Go.Sl.Env.ev e) (Go.Oper.mk d (Go.Op.fieldAddr s x f) ty p af g)) = Go.Sl.rFA P R s (Go.Sl.Env.ev e x) f) ∧
  (∀ {P : Go.Program} {R : Go.Sl.Hp} {e : Go.Sl.Env} {d : Option Go.Tmp} {ty : Go.TypeId} {p : String} {af : Array Go.Edge} {g : Option (Nat × Bool)} (s : Go.TypeId) (x : Go.Operand) (f : Nat), Go.Sl.rd P R (Go.execOp (Go.Sl.Env.ev e) (Go.Oper.mk d (Go.Op.field s x f) ty p af g)) = Go.Sl.rField P s (Go.Sl.Env.ev e x) f) ∧
  (∀ {P : Go.Program} {R : Go.Sl.Hp} {e : Go.Sl.Env} {d : Option Go.Tmp} {ty : Go.TypeId} {p : String} {af : Array Go.Edge} {g : Option (Nat × Bool)} (t : Go.TypeId) (x i : Go.Operand), Go.Sl.rd P R (Go.execOp (Go.Sl.Env.ev e) (Go.Oper.mk d (Go.Op.indexAddr t x i) ty p af g)) = Go.Sl.rIA P R t (Go.Sl.Env.ev e x) (Go.Sl.Env.ev e i)) ∧
  (∀ {P : Go.Program} {R : Go.Sl.Hp} {e : Go.Sl.Env} {d : Option Go.Tmp} {ty : Go.TypeId} {p : String} {af : Array Go.Edge} {g : Option (Nat × Bool)} (t : Go.TypeId) (x : Go.Operand) (lo hi mx : Option Go.Operand), Go.Sl.rd P R (Go.execOp (Go.Sl.Env.ev e) (Go.Oper.mk d (Go.Op.slice t x lo hi mx) ty p af g)) = Go.Sl.rSl P R t (Go.Sl.Env.ev e x) (Option.map (Go.Sl.Env.ev e) lo) (Option.map (Go.Sl.Env.ev e) hi) (Option.map (Go.Sl.Env.ev e) mx)) ∧
  (∀ {P : Go.Program} {R : Go.Sl.Hp} {e : Go.Sl.Env} {d : Option Go.Tmp} {ty : Go.TypeId} {p : String} {af : Array Go.Edge} {g : Option (Nat × Bool)} (x : Go.Operand) (i : Nat), Go.Sl.rd P R (Go.execOp (Go.Sl.Env.ev e) (Go.Oper.mk d (Go.Op.extract x i) ty p af g)) = Go.Sl.rExt (Go.Sl.Env.ev e x) i) ∧
  (∀ (vs : Array Go.Value) (i : Nat), Go.Sl.rExt (Go.Value.tuple vs) i = Go.Sl.vl vs[i]?) ∧
  (∀ {P : Go.Program} {R : Go.Sl.Hp} {e : Go.Sl.Env} {d : Option Go.Tmp} {ty : Go.TypeId} {p : String} {af : Array Go.Edge} {g : Option (Nat × Bool)} {fn : Go.Fn} {a b : List Go.Operand}, Go.Sl.rd P R (Go.execOp (Go.Sl.Env.ev e) (Go.Oper.mk d (Go.Op.makeFunc fn (List.toArray a) (List.toArray b)) ty p af g)) = Option.some (Go.Next.value (Go.Value.func fn (List.toArray (List.map (Go.Sl.Env.ev e) a)) (List.toArray (List.map (Go.Sl.Env.ev e) b))))) ∧
  (∀ {P : Go.Program} {R : Go.Sl.Hp} {e : Go.Sl.Env} {d : Option Go.Tmp} {ty : Go.TypeId} {p : String} {af : Array Go.Edge} {g : Option (Nat × Bool)} (t : Go.TypeId) (x : Go.Operand), Go.Sl.rd P R (Go.execOp (Go.Sl.Env.ev e) (Go.Oper.mk d (Go.Op.unOp Go.UnOp.not t x) ty p af g)) = Go.Sl.rUn Go.UnOp.not (Go.Sl.Env.ev e x)) ∧
  (∀ {P : Go.Program} {R : Go.Sl.Hp} {e : Go.Sl.Env} {d : Option Go.Tmp} {ty : Go.TypeId} {p : String} {af : Array Go.Edge} {g : Option (Nat × Bool)} (op : Go.BinOp) (t u : Go.TypeId) (x y : Go.Operand), Go.Sl.rd P R (Go.execOp (Go.Sl.Env.ev e) (Go.Oper.mk d (Go.Op.binOp op t x y u) ty p af g)) = Go.Sl.rBin P R op t x y (Go.Sl.Env.ev e x) (Go.Sl.Env.ev e y)) ∧
  (∀ {P : Go.Program} {R : Go.Sl.Hp} {t : Go.TypeId} {x y : Go.Operand} {k : Go.IntKind} {a b : Int}, Go.Sl.rBin P R Go.BinOp.add t x y (Go.Value.int k a) (Go.Value.int k b) = Option.some (Go.Next.value (Go.Value.int k (Go.IntKind.wrap k (a + b))))) ∧
  (∀ {P : Go.Program} {R : Go.Sl.Hp} {t : Go.TypeId} {x y : Go.Operand} {k : Go.IntKind} {a b : Int}, Go.Sl.rBin P R Go.BinOp.sub t x y (Go.Value.int k a) (Go.Value.int k b) = Option.some (Go.Next.value (Go.Value.int k (Go.IntKind.wrap k (a - b))))) ∧
  (∀ {P : Go.Program} {R : Go.Sl.Hp} {t : Go.TypeId} {x y : Go.Operand} {k : Go.IntKind} {a b : Int}, Go.Sl.rBin P R Go.BinOp.mul t x y (Go.Value.int k a) (Go.Value.int k b) = Option.some (Go.Next.value (Go.Value.int k (Go.IntKind.wrap k (a * b))))) ∧
  (∀ {P : Go.Program} {R : Go.Sl.Hp} {t : Go.TypeId} {x y : Go.Operand} {k : Go.IntKind} {a b : Int}, Go.Sl.rBin P R Go.BinOp.quo t x y (Go.Value.int k a) (Go.Value.int k b) = if b = (0 : Int) then Option.none else Option.some (Go.Next.value (Go.Value.int k (Go.IntKind.wrap k (Int.tdiv a b))))) ∧
  (∀ {P : Go.Program} {R : Go.Sl.Hp} {t : Go.TypeId} {x y : Go.Operand} {k : Go.IntKind} {a b : Int}, Go.Sl.rBin P R Go.BinOp.rem t x y (Go.Value.int k a) (Go.Value.int k b) = if b = (0 : Int) then Option.none else Option.some (Go.Next.value (Go.Value.int k (Int.tmod a b)))) ∧
  (∀ {P : Go.Program} {R : Go.Sl.Hp} {t : Go.TypeId} {x y : Go.Operand} {k : Go.IntKind} {a b : Int}, Go.Sl.rBin P R Go.BinOp.and t x y (Go.Value.int k a) (Go.Value.int k b) = Option.some (Go.Next.value (Go.Value.int k (Go.IntKind.wrap k ↑(BitVec.toNat (BitVec.ofInt (Go.IntKind.bits k) a &&& BitVec.ofInt (Go.IntKind.bits k) b)))))) ∧
  (∀ {P : Go.Program} {R : Go.Sl.Hp} {t : Go.TypeId} {x y : Go.Operand} {k : Go.IntKind} {a b : Int}, Go.Sl.rBin P R Go.BinOp.or t x y (Go.Value.int k a) (Go.Value.int k b) = Option.some (Go.Next.value (Go.Value.int k (Go.IntKind.wrap k ↑(BitVec.toNat (BitVec.ofInt (Go.IntKind.bits k) a ||| BitVec.ofInt (Go.IntKind.bits k) b)))))) ∧
  (∀ {P : Go.Program} {R : Go.Sl.Hp} {t : Go.TypeId} {x y : Go.Operand} {k : Go.IntKind} {a b : Int}, Go.Sl.rBin P R Go.BinOp.xor t x y (Go.Value.int k a) (Go.Value.int k b) = Option.some (Go.Next.value (Go.Value.int k (Go.IntKind.wrap k ↑(BitVec.toNat (BitVec.ofInt (Go.IntKind.bits k) a ^^^ BitVec.ofInt (Go.IntKind.bits k) b)))))) ∧
  (∀ {P : Go.Program} {R : Go.Sl.Hp} {t : Go.TypeId} {x y : Go.Operand} {k : Go.IntKind} {a b : Int}, Go.Sl.rBin P R Go.BinOp.eql t x y (Go.Value.int k a) (Go.Value.int k b) = Option.some (Go.Next.value (Go.Value.bool (a == b)))) ∧
  (∀ {P : Go.Program} {R : Go.Sl.Hp} {t : Go.TypeId} {x y : Go.Operand} {k : Go.IntKind} {a b : Int}, Go.Sl.rBin P R Go.BinOp.neq t x y (Go.Value.int k a) (Go.Value.int k b) = Option.some (Go.Next.value (Go.Value.bool (a != b)))) ∧
  (∀ {P : Go.Program} {R : Go.Sl.Hp} {t : Go.TypeId} {x y : Go.Operand} {k : Go.IntKind} {a b : Int}, Go.Sl.rBin P R Go.BinOp.lss t x y (Go.Value.int k a) (Go.Value.int k b) = Option.some (Go.Next.value (Go.Value.bool (Decidable.decide (a < b))))) ∧
  (∀ {P : Go.Program} {R : Go.Sl.Hp} {t : Go.TypeId} {x y : Go.Operand} {k : Go.IntKind} {a b : Int}, Go.Sl.rBin P R Go.BinOp.leq t x y (Go.Value.int k a) (Go.Value.int k b) = Option.some (Go.Next.value (Go.Value.bool (Decidable.decide (a ≤ b))))) ∧
  (∀ {P : Go.Program} {R : Go.Sl.Hp} {t : Go.TypeId} {x y : Go.Operand} {k : Go.IntKind} {a b : Int}, Go.Sl.rBin P R Go.BinOp.gtr t x y (Go.Value.int k a) (Go.Value.int k b) = Option.some (Go.Next.value (Go.Value.bool (Decidable.decide (b < a))))) ∧
  (∀ {P : Go.Program} {R : Go.Sl.Hp} {t : Go.TypeId} {x y : Go.Operand} {k : Go.IntKind} {a b : Int}, Go.Sl.rBin P R Go.BinOp.geq t x y (Go.Value.int k a) (Go.Value.int k b) = Option.some (Go.Next.value (Go.Value.bool (Decidable.decide (b ≤ a))))) ∧
  (∀ {P : Go.Program} {R : Go.Sl.Hp} {t : Go.TypeId} {x y : Go.Operand} {k : Go.IntKind} {a b : Int} {k' : Go.IntKind}, Go.Sl.rBin P R Go.BinOp.shl t x y (Go.Value.int k a) (Go.Value.int k' b) = if b < (0 : Int) then Option.none else Option.some (Go.Next.value (Go.Value.int k (Go.IntKind.wrap k (a * (2 : Int) ^ Min.min (Int.toNat b) (Go.IntKind.bits k)))))) ∧
  (∀ {P : Go.Program} {R : Go.Sl.Hp} {t : Go.TypeId} {x y : Go.Operand} {k : Go.IntKind} {a b : Int} {k' : Go.IntKind}, Go.Sl.rBin P R Go.BinOp.shr t x y (Go.Value.int k a) (Go.Value.int k' b) = if b < (0 : Int) then Option.none else Option.some (Go.Next.value (Go.Value.int k (Int.fdiv a ((2 : Int) ^ Min.min (Int.toNat b) (Go.IntKind.bits k)))))) ∧
  (∀ {P : Go.Program} {R : Go.Sl.Hp} {t : Go.TypeId} {x y : Go.Operand}, Go.Sl.ptIs P t = Bool.true → ∀ (q : Option Go.Addr), Go.Sl.rBin P R Go.BinOp.eql t x y (Go.Value.pointer q) (Go.Value.pointer Option.none) = Option.some (Go.Next.value (Go.Value.bool (Option.isNone q)))) ∧
  (∀ {P : Go.Program} {R : Go.Sl.Hp} {t : Go.TypeId} {x y : Go.Operand}, Go.Sl.ptIs P t = Bool.true → ∀ (q : Option Go.Addr), Go.Sl.rBin P R Go.BinOp.neq t x y (Go.Value.pointer q) (Go.Value.pointer Option.none) = Option.some (Go.Next.value (Go.Value.bool !Option.isNone q))) ∧
  (∀ {P : Go.Program} {R : Go.Sl.Hp} {t : Go.TypeId} {x y : Go.Operand}, Go.Sl.slIs P t = Bool.true → ∀ (q : Option Go.Addr) (n c : Nat), Go.Sl.rBin P R Go.BinOp.eql t x y (Go.Value.slice q n c) (Go.Value.slice Option.none (0 : Nat) (0 : Nat)) = Option.some (Go.Next.value (Go.Value.bool (Option.isNone q)))) ∧
  (∀ {P : Go.Program} {R : Go.Sl.Hp} {t : Go.TypeId} {x y : Go.Operand}, Go.Sl.slIs P t = Bool.true → ∀ (q : Option Go.Addr) (n c : Nat), Go.Sl.rBin P R Go.BinOp.neq t x y (Go.Value.slice q n c) (Go.Value.slice Option.none (0 : Nat) (0 : Nat)) = Option.some (Go.Next.value (Go.Value.bool !Option.isNone q))) ∧
  (∀ {P : Go.Program} {R : Go.Sl.Hp} {t : Go.TypeId} {x y : Go.Operand}, Go.Sl.boIs P t = Bool.true → ∀ (q q' : Bool), Go.Sl.rBin P R Go.BinOp.eql t x y (Go.Value.bool q) (Go.Value.bool q') = Option.some (Go.Next.value (Go.Value.bool (q == q')))) ∧
  (∀ {P : Go.Program} {R : Go.Sl.Hp} {t : Go.TypeId} {x y : Go.Operand}, Go.Sl.boIs P t = Bool.true → ∀ (q q' : Bool), Go.Sl.rBin P R Go.BinOp.neq t x y (Go.Value.bool q) (Go.Value.bool q') = Option.some (Go.Next.value (Go.Value.bool !q == q'))) ∧
  (∀ {P : Go.Program} {R : Go.Sl.Hp} {t : Go.TypeId} {x y : Go.Operand} (q q' : ByteArray), Go.Sl.rBin P R Go.BinOp.eql t x y (Go.Value.string q) (Go.Value.string q') = Option.some (Go.Next.value (Go.Value.bool (ByteArray.toList q == ByteArray.toList q')))) ∧
  (∀ {P : Go.Program} {R : Go.Sl.Hp} {t : Go.TypeId} {x y : Go.Operand} (q q' : ByteArray), Go.Sl.rBin P R Go.BinOp.neq t x y (Go.Value.string q) (Go.Value.string q') = Option.some (Go.Next.value (Go.Value.bool !ByteArray.toList q == ByteArray.toList q'))) ∧
  (∀ {P : Go.Program} {R : Go.Sl.Hp} {e : Go.Sl.Env} {d : Option Go.Tmp} {ty : Go.TypeId} {p : String} {af : Array Go.Edge} {g : Option (Nat × Bool)} (t : Go.TypeId) (x : Go.Operand), Go.Sl.rd P R (Go.execOp (Go.Sl.Env.ev e) (Go.Oper.mk d (Go.Op.call (Go.Call.mk (Go.Callee.builtin Go.Builtin.len) #[x] #[t])) ty p af g)) = Go.Sl.rLen P R t (Go.Sl.Env.ev e x)) ∧
  (∀ {P : Go.Program} {R : Go.Sl.Hp} {e : Go.Sl.Env} {d : Option Go.Tmp} {ty : Go.TypeId} {p : String} {af : Array Go.Edge} {g : Option (Nat × Bool)} (t u : Go.TypeId) (x y : Go.Operand), Go.Sl.rd P R (Go.execOp (Go.Sl.Env.ev e) (Go.Oper.mk d (Go.Op.call (Go.Call.mk (Go.Callee.builtin Go.Builtin.min) #[x, y] #[t, u])) ty p af g)) = Go.Sl.vl (Go.Sl.rd P R (Go.Builtin.min_ #[t, u] ty #[Go.Sl.Env.ev e x, Go.Sl.Env.ev e y]))) ∧
  (∀ {P : Go.Program} {R : Go.Sl.Hp} {e : Go.Sl.Env} {d : Option Go.Tmp} {ty : Go.TypeId} {p : String} {af : Array Go.Edge} {g : Option (Nat × Bool)} (t u : Go.TypeId) (x y : Go.Operand), Go.Sl.rd P R (Go.execOp (Go.Sl.Env.ev e) (Go.Oper.mk d (Go.Op.call (Go.Call.mk (Go.Callee.builtin Go.Builtin.max) #[x, y] #[t, u])) ty p af g)) = Go.Sl.vl (Go.Sl.rd P R (Go.Builtin.max_ #[t, u] ty #[Go.Sl.Env.ev e x, Go.Sl.Env.ev e y]))) ∧
  (∀ {P : Go.Program} {R : Go.Sl.Hp} (k : Go.IntKind) (a b : Int) (ts : Array Go.TypeId) (u : Go.TypeId), Go.Sl.rd P R (Go.Builtin.min_ ts u #[Go.Value.int k a, Go.Value.int k b]) = Option.some (Go.Value.int k (if b < a then b else a))) ∧
  (∀ {P : Go.Program} {R : Go.Sl.Hp} (k : Go.IntKind) (a b : Int) (ts : Array Go.TypeId) (u : Go.TypeId), Go.Sl.rd P R (Go.Builtin.max_ ts u #[Go.Value.int k a, Go.Value.int k b]) = Option.some (Go.Value.int k (if b > a then b else a))) ∧
  (∀ {P : Go.Program} {G : Go.Sl.Hp} {e : Go.Sl.Env} {d : Option Go.Tmp} {ty : Go.TypeId} {p : String} {af : Array Go.Edge} {g : Option (Nat × Bool)} (t : Go.TypeId) (x y : Go.Operand) {H : Go.Sl.Hp} {K : Go.Value → Go.Sl.Hp → Prop}, Go.Sl.opV P G (Go.execOp (Go.Sl.Env.ev e) (Go.Oper.mk d (Go.Op.store t x y) ty p af g)) H K = Go.Sl.opStore P G t (Go.Sl.Env.ev e x) (Go.Sl.Env.ev e y) H K) ∧
  (∀ {P : Go.Program} {G : Go.Sl.Hp} {e : Go.Sl.Env} {d : Option Go.Tmp} {ty : Go.TypeId} {p : String} {af : Array Go.Edge} {g : Option (Nat × Bool)} (t : Go.TypeId) (x : Go.Operand) {H : Go.Sl.Hp} {K : Go.Value → Go.Sl.Hp → Prop}, Go.Sl.opV P G (Go.execOp (Go.Sl.Env.ev e) (Go.Oper.mk d (Go.Op.box t x) ty p af g)) H K = Go.Sl.New H G (Go.Sl.nwK K H (fun (b : Nat) => Go.Value.pointer (Option.some (Go.Addr.mk b (0 : Nat) Option.none))) (Go.Obj.cells (Go.Value.cells (Go.Sl.Env.ev e x)) t))) ∧
  (∀ {P : Go.Program} {G : Go.Sl.Hp} {e : Go.Sl.Env} {d : Option Go.Tmp} {ty : Go.TypeId} {p : String} {af : Array Go.Edge} {g : Option (Nat × Bool)} (t : Go.TypeId) {H : Go.Sl.Hp} {K : Go.Value → Go.Sl.Hp → Prop}, Go.Sl.opV P G (Go.execOp (Go.Sl.Env.ev e) (Go.Oper.mk d (Go.Op.makeMap t Option.none) ty p af g)) H K = Go.Sl.New H G (Go.Sl.nwK K H (fun (b : Nat) => Go.Value.map (Option.some b)) (Go.Obj.map #[] (0 : Nat)))) ∧
  (∀ {P : Go.Program} {e : Go.Sl.Env} {d : Option Go.Tmp} {ty : Go.TypeId} {p : String} {af : Array Go.Edge} {g : Option (Nat × Bool)} (t : Go.TypeId) (x : Go.Operand), Go.Sl.nw P (Go.execOp (Go.Sl.Env.ev e) (Go.Oper.mk d (Go.Op.box t x) ty p af g)) = Option.some (Go.Obj.cells (Go.Value.cells (Go.Sl.Env.ev e x)) t, fun (b : Nat) => Option.some (Go.Next.value (Go.Value.pointer (Option.some (Go.Addr.mk b (0 : Nat) Option.none)))))) ∧
  (∀ {P : Go.Program} {e : Go.Sl.Env} {d : Option Go.Tmp} {ty : Go.TypeId} {p : String} {af : Array Go.Edge} {g : Option (Nat × Bool)} (t : Go.TypeId), Go.Sl.nw P (Go.execOp (Go.Sl.Env.ev e) (Go.Oper.mk d (Go.Op.makeMap t Option.none) ty p af g)) = Option.some (Go.Obj.map #[] (0 : Nat), fun (b : Nat) => Option.some (Go.Next.value (Go.Value.map (Option.some b))))) ∧
  (∀ {P : Go.Program} {G : Go.Sl.Hp} {e : Go.Sl.Env} {d : Option Go.Tmp} {ty : Go.TypeId} {p : String} {af : Array Go.Edge} {g : Option (Nat × Bool)} {k : Go.FuncId}, Go.Sl.goes P k = Bool.true → ∀ {args : Array Go.Operand} {ts : Array Go.TypeId} {H : Go.Sl.Hp} {K : Go.Value → Go.Sl.Hp → Prop}, Go.Sl.opV P G (Go.execOp (Go.Sl.Env.ev e) (Go.Oper.mk d (Go.Op.call (Go.Call.mk (Go.Callee.value (Go.Operand.func k)) args ts)) ty p af g)) H K = Go.Sl.CallsH P G k (List.toArray (List.map (Go.Sl.Env.ev e) (Array.toList args))) H (Go.Sl.retK K)) ∧
  (∀ {P : Go.Program} {G : Go.Sl.Hp} {e : Go.Sl.Env} {d : Option Go.Tmp} {ty : Go.TypeId} {p : String} {af : Array Go.Edge} {g : Option (Nat × Bool)} (t u : Go.TypeId) (x y : Go.Operand) {H : Go.Sl.Hp} {K : Go.Value → Go.Sl.Hp → Prop}, Go.Sl.opV P G (Go.execOp (Go.Sl.Env.ev e) (Go.Oper.mk d (Go.Op.call (Go.Call.mk (Go.Callee.builtin Go.Builtin.append) #[x, y] #[t, u])) ty p af g)) H K = Go.Sl.opAppend P G t u (Go.Sl.Env.ev e x) (Go.Sl.Env.ev e y) H K) ∧
  (∀ (e : Go.Sl.Env) (t : Go.Tmp), Go.Sl.Env.ev e (Go.Operand.tmp t) = e t) ∧
  (∀ (e : Go.Sl.Env) (v : Go.Value), Go.Sl.Env.ev e (Go.Operand.const v) = v) ∧
  (∀ (e : Go.Sl.Env) (f : Go.FuncId), Go.Sl.Env.ev e (Go.Operand.func f) = Go.Value.func (Go.Fn.func f) #[] #[]) ∧
  (∀ {α : Type} {xs : List α} {i : Nat}, (List.toArray xs)[i]? = xs[i]?) ∧
  (∀ {α : Type} {a : α} {i : Nat} {l : List α}, (a :: l)[i + (1 : Nat)]? = l[i]?) ∧
  (∀ {α : Type} {a : α} {l : List α}, (a :: l)[(0 : Nat)]? = Option.some a) ∧
  (∀ {α : Type} {β : Type} (a : α) (f : α → Option β), Option.bind (Option.some a) f = f a) ∧
  (∀ {α : Type} {x : Decidable True} (t e : α), (if True then t else e) = t) ∧
  (∀ {α : Type} {x : Decidable False} (t e : α), (if False then t else e) = e) ∧
  (∀ {p : Prop} [inst : Decidable p], (Decidable.decide p = Bool.true) = p) ∧
  (∀ {α : Type} {x : α} {xs : List α} {d : α}, List.getD (x :: xs) (0 : Nat) d = x) ∧
  (∀ {α : Type} {x : α} {xs : List α} {n : Nat} {d : α}, List.getD (x :: xs) (n + (1 : Nat)) d = List.getD xs n d) ∧
  (∀ {α : Type} {a : α} {as bs : List α}, a :: as ++ bs = a :: (as ++ bs)) ∧
  (∀ {α : Type} (as : List α), [] ++ as = as) ∧
  (Option.isNone (Option.none : Option Go.Addr) = Bool.true) ∧
  (∀ {α : Type} {a : α}, Option.isNone (Option.some a) = Bool.false) ∧
  ((!Bool.true) = Bool.false) ∧
  ((!Bool.false) = Bool.true) ∧
  (∀ {α : Type} {β : Type} (a : α) (f : α → β), Option.map f (Option.some a) = Option.some (f a)) ∧
  (∀ {α : Type} {β : Type} (f : α → β), Option.map f Option.none = Option.none) ∧
  (∀ {α : Type} {β : Type} {f : α → β} {a : α} {l : List α}, List.map f (a :: l) = f a :: List.map f l) ∧
  (∀ {α : Type} {β : Type} {f : α → β}, List.map f [] = []) ∧
  ((Bool.false = Bool.true) = False) ∧
  (∀ (p : Prop), (True ∧ p) = p) ∧
  (∀ (p : Prop), (p ∧ True) = p) ∧
  (∀ {α : Type} {a : α} [inst : BEq α], List.contains [] a = Bool.false) ∧
  (∀ {α : Type} [inst : BEq α] {a b : α} {l : List α}, List.contains (a :: l) b = (b == a || List.contains l b)) ∧
  (∀ (b : Bool), (b || Bool.false) = b) ∧
  (∀ {K : Nat → Prop}, (∀ (x : Nat), x ∈ [] → K x) = True) ∧
  (∀ {v : Go.Value}, Go.Sl.tuple1 [v] = v) ∧
  (Go.Sl.tuple1 [] = Go.Value.tuple #[]) ∧
  (∀ {v w : Go.Value} {l : List Go.Value}, Go.Sl.tuple1 (v :: w :: l) = Go.Value.tuple (List.toArray (v :: w :: l))) ∧
  (∀ {v : Go.Value} {K : Go.Value → Prop}, Go.Sl.Ex (Option.some (Go.Next.value v)) K = K v) ∧
  (∀ {c : Prop} [inst : Decidable c] {o : Option Go.Next} {K : Go.Value → Prop}, Go.Sl.Ex (if c then o else Option.none) K = (c ∧ Go.Sl.Ex o K)) ∧
  (∀ {H : Go.Sl.Hp} {K : Go.Sl.Hp → Prop}, Go.Sl.St (Option.some H) K = K H) ∧
  (∀ {h : Go.Sl.Hp} {p : Go.Sl.Hp → Option Go.Next} {K : Go.Value → Prop}, Go.Sl.Each [h] p K = Go.Sl.Ex (p h) K) ∧
  (∀ {h h' : Go.Sl.Hp} {p : Go.Sl.Hp → Option Go.Next} {K : Go.Value → Prop}, Go.Sl.Each [h, h'] p K = Go.Sl.Ex (p h) fun (v : Go.Value) => p h' = Option.some (Go.Next.value v) ∧ K v) ∧
  (∀ {ob : Go.Obj} {f : Nat → Option Go.Next} {K : Go.Obj → (Nat → Option Go.Next) → Prop}, Go.Sl.ExN (Option.some (ob, f)) K = K ob f) ∧
  (∀ {b : Bool}, Go.Sl.yv (Go.Value.bool b) = Option.some b) ∧
  (∀ {b : Bool}, (Option.some b = Option.some Bool.true) = (b = Bool.true)) ∧
  (∀ {b : Bool}, (Option.some b = Option.some Bool.false) = (b = Bool.false)) ∧
  (∀ {p : Prop} {x : Decidable p}, Decidable.decide p = Bool.false ↔ ¬p) ∧
  (∀ {P : Go.Program} {R : Go.Sl.Hp} {s : Go.TypeId} {f : Nat} (a : Go.Addr), Go.Sl.fIs P s f = Bool.true → Go.Sl.rFA P R s (Go.Value.pointer (Option.some a)) f = Option.some (Go.Next.value (Go.Value.pointer (Option.some (Go.Addr.add a (Go.Sl.fOff P s f)))))) ∧
  (∀ {P : Go.Program} {s : Go.TypeId} {f : Nat} (cs : Array Go.Value), Go.Sl.fIs P s f = Bool.true → Go.Sl.rField P s (Go.Value.agg cs) f = Go.Sl.vl (Go.Sl.prt P (Go.Sl.fTy P s f) cs (Go.Sl.fOff P s f))) ∧
  (∀ {P : Go.Program} {R : Go.Sl.Hp} {t : Go.TypeId} (a : Go.Addr) (len cap : Nat) (k : Go.IntKind) (i : Int), Go.Sl.slIs P t = Bool.true → Go.Sl.rIA P R t (Go.Value.slice (Option.some a) len cap) (Go.Value.int k i) = if (0 : Int) ≤ i ∧ i < ↑len then Option.some (Go.Next.value (Go.Value.pointer (Option.some (Go.Addr.add a (Int.toNat i * Go.Sl.slSz P t))))) else Option.none) ∧
  (∀ {P : Go.Program} {R : Go.Sl.Hp} {t : Go.TypeId} (a : Option Go.Addr) (len cap : Nat) (k : Go.IntKind) (i : Int), Go.Sl.slIs P t = Bool.true → Go.Sl.rSl P R t (Go.Value.slice a len cap) Option.none (Option.some (Go.Value.int k i)) Option.none = if (0 : Int) ≤ i ∧ i ≤ ↑cap then Option.some (Go.Next.value (Go.Value.slice a (Int.toNat i) cap)) else Option.none) ∧
  (∀ {P : Go.Program} {R : Go.Sl.Hp} {t : Go.TypeId} (a : Option Go.Addr) (len cap : Nat) (k : Go.IntKind) (i : Int), Go.Sl.slIs P t = Bool.true → Go.Sl.rSl P R t (Go.Value.slice a len cap) (Option.some (Go.Value.int k i)) Option.none Option.none = if (0 : Int) ≤ i ∧ i ≤ ↑len then Option.some (Go.Next.value (Go.Value.slice (if cap = Int.toNat i then a else Option.map (fun (x : Go.Addr) => Go.Addr.add x (Int.toNat i * Go.Sl.slSz P t)) a) (len - Int.toNat i) (cap - Int.toNat i))) else Option.none) ∧
  (∀ {P : Go.Program} {R : Go.Sl.Hp} {t : Go.TypeId} (a : Option Go.Addr) (len cap : Nat) (k k' : Go.IntKind) (i j : Int), Go.Sl.slIs P t = Bool.true → Go.Sl.rSl P R t (Go.Value.slice a len cap) (Option.some (Go.Value.int k i)) (Option.some (Go.Value.int k' j)) Option.none = if (0 : Int) ≤ j ∧ j ≤ ↑cap then if (0 : Int) ≤ i ∧ i ≤ ↑(Int.toNat j) then Option.some (Go.Next.value (Go.Value.slice (if cap = Int.toNat i then a else Option.map (fun (x : Go.Addr) => Go.Addr.add x (Int.toNat i * Go.Sl.slSz P t)) a) (Int.toNat j - Int.toNat i) (cap - Int.toNat i))) else Option.none else Option.none) ∧
  (∀ {P : Go.Program} {R : Go.Sl.Hp} {t : Go.TypeId} (a : Option Go.Addr) (len cap : Nat) (k k' : Go.IntKind) (j m : Int), Go.Sl.slIs P t = Bool.true → Go.Sl.rSl P R t (Go.Value.slice a len cap) Option.none (Option.some (Go.Value.int k j)) (Option.some (Go.Value.int k' m)) = if (0 : Int) ≤ m ∧ m ≤ ↑cap then if (0 : Int) ≤ j ∧ j ≤ ↑(Int.toNat m) then Option.some (Go.Next.value (Go.Value.slice a (Int.toNat j) (Int.toNat m))) else Option.none else Option.none) ∧
  (∀ {P : Go.Program} {R : Go.Sl.Hp} {t : Go.TypeId}, Go.Sl.slIs P t = Bool.true → ∀ (a : Option Go.Addr) (n c : Nat), Go.Sl.rLen P R t (Go.Value.slice a n c) = Option.some (Go.Next.value (Go.Value.int Go.IntKind.i64 ↑n))) ∧
  (∀ {P : Go.Program} {R : Go.Sl.Hp} {t : Go.TypeId}, Go.Sl.stIs P t = Bool.true → ∀ (s : ByteArray), Go.Sl.rLen P R t (Go.Value.string s) = Option.some (Go.Next.value (Go.Value.int Go.IntKind.i64 ↑(ByteArray.size s)))) ∧
  (∀ (b : Bool), Go.Sl.rUn Go.UnOp.not (Go.Value.bool b) = Option.some (Go.Next.value (Go.Value.bool !b))) ∧
  (∀ (k : Go.IntKind) (n : Int), Go.Sl.rUn Go.UnOp.neg (Go.Value.int k n) = Option.some (Go.Next.value (Go.Value.int k (Go.IntKind.wrap k ((0 : Int) - n))))) ∧
  (∀ {P : Go.Program} {R : Go.Sl.Hp} {t : Go.TypeId} {a : Go.Addr}, Go.Sl.ldV P R t a = Go.Sl.ldA (Go.Sl.aggN P t) R a) ∧
  (∀ {R : Go.Sl.Hp} {a : Go.Addr}, Go.Sl.ldA (Option.some Option.none) R a = Go.Sl.Hp.cell R a) ∧
  (∀ {R : Go.Sl.Hp} {a : Go.Addr} {n : Nat}, Go.Sl.ldA (Option.some (Option.some n)) R a = Option.map (fun (l : List Go.Value) => Go.Value.agg (List.toArray l)) (Go.Sl.ldl R a (0 : Nat) n)) ∧
  (∀ {P : Go.Program} {t : Go.TypeId} {cs : Array Go.Value} {off : Nat}, Go.Sl.prt P t cs off = Go.Sl.prA (Go.Sl.aggN P t) cs off) ∧
  (∀ {cs : Array Go.Value} {off : Nat}, Go.Sl.prA (Option.some Option.none) cs off = cs[off]?) ∧
  (∀ {l : List Go.Value} {off n : Nat}, Go.Sl.prA (Option.some (Option.some n)) (List.toArray l) off = Option.some (Go.Value.agg (List.toArray (List.take n (List.drop off l))))) ∧
  (∀ {P : Go.Program} {G : Go.Sl.Hp} {t : Go.TypeId} (a : Go.Addr) (v : Go.Value) {H : Go.Sl.Hp} {K : Go.Value → Go.Sl.Hp → Prop}, Go.Sl.opStore P G t (Go.Value.pointer (Option.some a)) v H K = (Go.Sl.csz P t = Option.some (Array.size (Go.Value.cells v)) ∧ Go.Sl.St (Go.Sl.Hp.stl H a (0 : Nat) (Array.toList (Go.Value.cells v))) (K Go.undef))) ∧
  (∀ {k : Go.IntKind} {n : Int}, Go.Value.cells (Go.Value.int k n) = #[Go.Value.int k n]) ∧
  (∀ {n : Bool}, Go.Value.cells (Go.Value.bool n) = #[Go.Value.bool n]) ∧
  (∀ {n : ByteArray}, Go.Value.cells (Go.Value.string n) = #[Go.Value.string n]) ∧
  (∀ {n : Option Go.Addr}, Go.Value.cells (Go.Value.pointer n) = #[Go.Value.pointer n]) ∧
  (∀ {n : Option Go.Addr} {l c : Nat}, Go.Value.cells (Go.Value.slice n l c) = #[Go.Value.slice n l c]) ∧
  (∀ {n : Option Nat}, Go.Value.cells (Go.Value.map n) = #[Go.Value.map n]) ∧
  (∀ {f : Go.Fn} {a b : Array Go.Value}, Go.Value.cells (Go.Value.func f a b) = #[Go.Value.func f a b]) ∧
  (Go.Value.cells Go.Value.nilFunc = #[Go.Value.nilFunc]) ∧
  (∀ {t : Go.TypeId} {v : Go.Value}, Go.Value.cells (Go.Value.iface t v) = #[Go.Value.iface t v]) ∧
  (∀ {cs : Array Go.Value}, Go.Value.cells (Go.Value.agg cs) = cs) ∧
  (Go.Sl.nn [] = []) ∧
  (∀ {k : Nat} {l : List Nat}, Go.Sl.nn (k :: l) = (k, []) :: Go.Sl.nn l) ∧
  (∀ {v : Go.Value}, Array.size #[v] = (1 : Nat)) ∧
  (∀ (b off n : Nat), Go.Addr.add (Go.Addr.mk b off Option.none) n = Go.Addr.mk b (off + n) Option.none) ∧
  (∀ (n : Nat), (0 : Nat) + n = n) ∧
  (∀ {α : Type} {l : List α}, List.drop (0 : Nat) l = l) ∧
  (∀ {α : Type} {a : α} {l : List α} {i : Nat}, List.drop (i + (1 : Nat)) (a :: l) = List.drop i l) ∧
  (∀ {α : Type} {l : List α}, List.take (0 : Nat) l = []) ∧
  (∀ {α : Type} {a : α} {as : List α} {i : Nat}, List.take (i + (1 : Nat)) (a :: as) = a :: List.take i as) ∧
  (∀ {P : Go.Program} {R : Go.Sl.Hp} {e : Go.Sl.Env} {d : Option Go.Tmp} {ty : Go.TypeId} {p : String} {af : Array Go.Edge} {g : Option (Nat × Bool)} (t : Go.TypeId) (ps : List (Nat × Go.Operand)), Go.Sl.rd P R (Go.execOp (Go.Sl.Env.ev e) (Go.Oper.mk d (Go.Op.build t (List.toArray ps)) ty p af g)) = Go.Sl.rBuild P R t (List.map (fun (q : Nat × Go.Operand) => (Prod.fst q, Go.Sl.Env.ev e (Prod.snd q))) ps)) ∧
  (∀ {P : Go.Program} {R : Go.Sl.Hp} {t : Go.TypeId} {ps : List (Nat × Go.Value)}, Go.Sl.bIs P t = Bool.true → Go.Sl.rBuild P R t ps = Go.Sl.vl (Option.map (fun (l : List Go.Value) => Go.Value.agg (List.toArray l)) (Go.Sl.fillL (Go.Sl.plcs P t) (Go.Sl.zcs P t) ps))) ∧
  (∀ {pl : List (Nat × Nat)} {cells : List Go.Value}, Go.Sl.fillL pl cells [] = Option.some cells) ∧
  (∀ {pl : List (Nat × Nat)} {cells : List Go.Value} {i : Nat} {v : Go.Value} {rest : List (Nat × Go.Value)}, Go.Sl.fillL pl cells ((i, v) :: rest) = Go.Sl.fill1 pl[i]? pl cells v rest) ∧
  (∀ {off size : Nat} {pl : List (Nat × Nat)} {cells : List Go.Value} {v : Go.Value} {rest : List (Nat × Go.Value)}, Go.Sl.fill1 (Option.some (off, size)) pl cells v rest = if List.length (Array.toList (Go.Value.cells v)) = size ∧ off + size ≤ List.length cells then Go.Sl.fillL pl (Go.Sl.splice cells off (Array.toList (Go.Value.cells v))) rest else Option.none) ∧
  (∀ {cells : List Go.Value} {off : Nat} {vs : List Go.Value}, Go.Sl.splice cells off vs = List.take off cells ++ (vs ++ List.drop (off + List.length vs) cells)) ∧
  (∀ {α : Type} {a : α} {as : List α}, List.length (a :: as) = List.length as + (1 : Nat)) ∧
  (List.length ([] : List Go.Value) = 0) ∧
  (∀ {a : Array Go.Operand} {t : Array Go.TypeId}, Go.Sl.isRd (Go.Op.call (Go.Call.mk (Go.Callee.builtin Go.Builtin.cap) a t)) = Bool.true) ∧
  (∀ {P : Go.Program} {R : Go.Sl.Hp} {e : Go.Sl.Env} {d : Option Go.Tmp} {ty : Go.TypeId} {p : String} {af : Array Go.Edge} {g : Option (Nat × Bool)} (t : Go.TypeId) (x : Go.Operand), Go.Sl.rd P R (Go.execOp (Go.Sl.Env.ev e) (Go.Oper.mk d (Go.Op.call (Go.Call.mk (Go.Callee.builtin Go.Builtin.cap) #[x] #[t])) ty p af g)) = Go.Sl.rCap P R t (Go.Sl.Env.ev e x)) ∧
  (∀ {P : Go.Program} {R : Go.Sl.Hp} {t : Go.TypeId}, Go.Sl.slIs P t = Bool.true → ∀ (a : Option Go.Addr) (n c : Nat), Go.Sl.rCap P R t (Go.Value.slice a n c) = Option.some (Go.Next.value (Go.Value.int Go.IntKind.i64 ↑c))) ∧
  (∀ {P : Go.Program} {e : Go.Sl.Env} {d : Option Go.Tmp} {ty : Go.TypeId} {p : String} {af : Array Go.Edge} {g : Option (Nat × Bool)} (t : Go.TypeId) (n : Nat) (ps : List (Nat × Go.Operand)), Go.Sl.nw P (Go.execOp (Go.Sl.Env.ev e) (Go.Oper.mk d (Go.Op.buildSlice t n (List.toArray ps)) ty p af g)) = Go.Sl.nwB P t n (List.map (fun (q : Nat × Go.Operand) => (Prod.fst q, Go.Sl.Env.ev e (Prod.snd q))) ps)) ∧
  (∀ {P : Go.Program} {G : Go.Sl.Hp} {e : Go.Sl.Env} {d : Option Go.Tmp} {ty : Go.TypeId} {p : String} {af : Array Go.Edge} {g : Option (Nat × Bool)} (t : Go.TypeId) (n : Nat) (ps : List (Nat × Go.Operand)) {H : Go.Sl.Hp} {K : Go.Value → Go.Sl.Hp → Prop}, Go.Sl.opV P G (Go.execOp (Go.Sl.Env.ev e) (Go.Oper.mk d (Go.Op.buildSlice t n (List.toArray ps)) ty p af g)) H K = Go.Sl.opB P G t n (List.map (fun (q : Nat × Go.Operand) => (Prod.fst q, Go.Sl.Env.ev e (Prod.snd q))) ps) H K) ∧
  (∀ {P : Go.Program} {G : Go.Sl.Hp} {t : Go.TypeId} {n : Nat} {ps : List (Nat × Go.Value)} {H : Go.Sl.Hp} {K : Go.Value → Go.Sl.Hp → Prop}, Option.isSome (Go.Sl.apI P t) = Bool.true → Nat.ble (n * Go.Sl.slSz P t) (16777216 : Nat) = Bool.true → Go.Sl.fullB (Go.Sl.slSz P t) (0 : Nat) ps = Option.some n → Go.Sl.opB P G t n ps H K = Go.Sl.New H G (Go.Sl.nwK K H (fun (b : Nat) => Go.Value.slice (Option.some (Go.Addr.mk b (0 : Nat) Option.none)) n n) (Go.Obj.cells (List.toArray (Go.Sl.flatC ps)) (Go.Sl.slEl P t)))) ∧
  (∀ {P : Go.Program} {t : Go.TypeId} {n : Nat} {ps : List (Nat × Go.Value)}, Option.isSome (Go.Sl.apI P t) = Bool.true → Nat.ble (n * Go.Sl.slSz P t) (16777216 : Nat) = Bool.true → Go.Sl.fullB (Go.Sl.slSz P t) (0 : Nat) ps = Option.some n → Go.Sl.nwB P t n ps = Option.some (Go.Obj.cells (List.toArray (Go.Sl.flatC ps)) (Go.Sl.slEl P t), fun (b : Nat) => Option.some (Go.Next.value (Go.Value.slice (Option.some (Go.Addr.mk b (0 : Nat) Option.none)) n n)))) ∧
  (∀ {sz i : Nat}, Go.Sl.fullB sz i [] = Option.some i) ∧
  (∀ {sz i j : Nat} {v : Go.Value} {r : List (Nat × Go.Value)}, Go.Sl.fullB sz i ((j, v) :: r) = if j = i ∧ List.length (Array.toList (Go.Value.cells v)) = sz then Go.Sl.fullB sz (i + (1 : Nat)) r else Option.none) ∧
  (Go.Sl.flatC [] = []) ∧
  (∀ {j : Nat} {v : Go.Value} {r : List (Nat × Go.Value)}, Go.Sl.flatC ((j, v) :: r) = Array.toList (Go.Value.cells v) ++ Go.Sl.flatC r) ∧
  (∀ {z : Go.Value} {t : Go.TypeId} {H G : Go.Sl.Hp} {K : Go.Value → Go.Sl.Hp → Prop}, Go.Sl.opAl (Option.some z) t H G K = Go.Sl.New H G (Go.Sl.nwK K H (fun (b : Nat) => Go.Value.pointer (Option.some (Go.Addr.mk b (0 : Nat) Option.none))) (Go.Obj.cells (Go.Value.cells z) t))) ∧
  (∀ {P : Go.Program} {G : Go.Sl.Hp} {e : Go.Sl.Env} {d : Option Go.Tmp} {ty : Go.TypeId} {p : String} {af : Array Go.Edge} {g : Option (Nat × Bool)} {t : Go.TypeId} {H : Go.Sl.Hp} {K : Go.Value → Go.Sl.Hp → Prop}, Go.Sl.opV P G (Go.execOp (Go.Sl.Env.ev e) (Go.Oper.mk d (Go.Op.alloc t) ty p af g)) H K = Go.Sl.opAl (Go.Sl.zro P t) t H G K) ∧
  (∀ {z : Go.Value} {t : Go.TypeId}, Go.Sl.nwAl (Option.some z) t = Option.some (Go.Obj.cells (Go.Value.cells z) t, fun (b : Nat) => Option.some (Go.Next.value (Go.Value.pointer (Option.some (Go.Addr.mk b (0 : Nat) Option.none)))))) ∧
  (∀ {P : Go.Program} {e : Go.Sl.Env} {d : Option Go.Tmp} {ty : Go.TypeId} {p : String} {af : Array Go.Edge} {g : Option (Nat × Bool)} {t : Go.TypeId}, Option.isSome (Go.Sl.zro P t) = Bool.true → Go.Sl.nw P (Go.execOp (Go.Sl.Env.ev e) (Go.Oper.mk d (Go.Op.alloc t) ty p af g)) = Go.Sl.nwAl (Go.Sl.zro P t) t) ∧
  (∀ {P : Go.Program} {R : Go.Sl.Hp} {e : Go.Sl.Env} {d : Option Go.Tmp} {ty : Go.TypeId} {p : String} {af : Array Go.Edge} {g : Option (Nat × Bool)} (s t : Go.TypeId) (x : Go.Operand), Go.Sl.rd P R (Go.execOp (Go.Sl.Env.ev e) (Go.Oper.mk d (Go.Op.convert s t x) ty p af g)) = Go.Sl.rConv P R s t (Go.Sl.Env.ev e x)) ∧
  (∀ {P : Go.Program} {G : Go.Sl.Hp} {e : Go.Sl.Env} {d : Option Go.Tmp} {ty : Go.TypeId} {p : String} {af : Array Go.Edge} {g : Option (Nat × Bool)} (s t : Go.TypeId) (x : Go.Operand) {H : Go.Sl.Hp} {K : Go.Value → Go.Sl.Hp → Prop}, Go.Sl.opV P G (Go.execOp (Go.Sl.Env.ev e) (Go.Oper.mk d (Go.Op.convert s t x) ty p af g)) H K = Go.Sl.opConv P G s t (Go.Sl.Env.ev e x) H K) ∧
  (∀ {P : Go.Program} {R : Go.Sl.Hp} {s t : Go.TypeId} {k : Go.IntKind} {n : Int}, Option.isSome (Go.Sl.inIs P s) = Bool.true → Option.isSome (Go.Sl.inIs P t) = Bool.true → Go.Sl.rConv P R s t (Go.Value.int k n) = Go.Sl.rcI (Go.Sl.inIs P t) n) ∧
  (∀ {P : Go.Program} {G : Go.Sl.Hp} {s t : Go.TypeId} {k : Go.IntKind} {n : Int}, Option.isSome (Go.Sl.inIs P s) = Bool.true → Option.isSome (Go.Sl.inIs P t) = Bool.true → ∀ {H : Go.Sl.Hp} {K : Go.Value → Go.Sl.Hp → Prop}, Go.Sl.opConv P G s t (Go.Value.int k n) H K = Go.Sl.Ex (Go.Sl.rcI (Go.Sl.inIs P t) n) (Go.Sl.exK K H)) ∧
  (∀ {k : Go.IntKind} {n : Int}, Go.Sl.rcI (Option.some k) n = Option.some (Go.Next.value (Go.Value.int k (Go.IntKind.wrap k n)))) ∧
  (∀ {P : Go.Program} {R : Go.Sl.Hp} {s t : Go.TypeId} {q : ByteArray}, Go.Sl.stIs P s = Bool.true → Go.Sl.stIs P t = Bool.true → Go.Sl.rConv P R s t (Go.Value.string q) = Option.some (Go.Next.value (Go.Value.string q))) ∧
  (∀ {P : Go.Program} {G : Go.Sl.Hp} {s t : Go.TypeId} {q : ByteArray}, Go.Sl.stIs P s = Bool.true → Go.Sl.stIs P t = Bool.true → ∀ {H : Go.Sl.Hp} {K : Go.Value → Go.Sl.Hp → Prop}, Go.Sl.opConv P G s t (Go.Value.string q) H K = K (Go.Value.string q) H) ∧
  (∀ {P : Go.Program} {R : Go.Sl.Hp} {s t : Go.TypeId} {a : Option Go.Addr} {n c : Nat}, Go.Sl.bySl P s = Bool.true → Go.Sl.stIs P t = Bool.true → Go.Sl.rConv P R s t (Go.Value.slice a n c) = Go.Sl.rStr P R (Go.Value.slice a n c)) ∧
  (∀ {P : Go.Program} {G : Go.Sl.Hp} {s t : Go.TypeId} {a : Option Go.Addr} {n c : Nat}, Go.Sl.bySl P s = Bool.true → Go.Sl.stIs P t = Bool.true → ∀ {H : Go.Sl.Hp} {K : Go.Value → Go.Sl.Hp → Prop}, Go.Sl.opConv P G s t (Go.Value.slice a n c) H K = Go.Sl.Ex (Go.Sl.rStr P (Go.Sl.Hp.un H G) (Go.Value.slice a n c)) (Go.Sl.exK K H)) ∧
  (∀ {α : Type} {a : α}, Option.isSome (Option.some a) = Bool.true) ∧
  (∀ {c : Prop} [inst : Decidable c] {o : Option Go.Next} {K : Go.Value → Prop}, Go.Sl.Ex (if c then Option.none else o) K = (¬c ∧ Go.Sl.Ex o K)) ∧
  (Go.IntKind.bits Go.IntKind.i64 = (64 : Nat)) ∧
  (Go.IntKind.bits Go.IntKind.u64 = (64 : Nat)) ∧
  (Go.IntKind.bits Go.IntKind.u8 = (8 : Nat)) ∧
  (Go.IntKind.bits Go.IntKind.u16 = (16 : Nat)) ∧
  (Go.IntKind.bits Go.IntKind.u32 = (32 : Nat)) ∧
  (∀ {n : Int}, Go.IntKind.wrap Go.IntKind.u8 n = n % (256 : Int)) ∧
  (Go.Sl.yv Go.undef = Option.none) ∧
  (∀ {ops : Array Go.Oper} {k : Nat}, Go.Sl.opAt ops k = Option.getD ops[k]? Inhabited.default) ∧
  (∀ {ops : Array Go.Oper} {e : Go.Sl.Env} {d : Option Go.Tmp} {op : Go.Op} {ty : Go.TypeId} {p : String} {af : Array Go.Edge}, Go.Sl.wantE ops e (Go.Oper.mk d op ty p af Option.none) = Bool.true) ∧
  (∀ {ops : Array Go.Oper} {e : Go.Sl.Env} {d : Option Go.Tmp} {op : Go.Op} {ty : Go.TypeId} {p : String} {af : Array Go.Edge} {j : Nat} {b : Bool}, Go.Sl.wantE ops e (Go.Oper.mk d op ty p af (Option.some (j, b))) = (Go.Sl.yieldE ops e j == Option.some b)) ∧
  (Go.Sl.eqL [] [] [] = Option.some Bool.true) ∧
  (∀ {ks : List Go.Sl.CK} {a c : Bool} {xs ys : List Go.Value}, Go.Sl.eqL (Go.Sl.CK.b :: ks) (Go.Value.bool a :: xs) (Go.Value.bool c :: ys) = Option.map (fun (r : Bool) => a == c && r) (Go.Sl.eqL ks xs ys)) ∧
  (∀ {ks : List Go.Sl.CK} {k : Go.IntKind} {a c : Int} {xs ys : List Go.Value}, Go.Sl.eqL (Go.Sl.CK.i :: ks) (Go.Value.int k a :: xs) (Go.Value.int k c :: ys) = Option.map (fun (r : Bool) => a == c && r) (Go.Sl.eqL ks xs ys)) ∧
  (∀ {ks : List Go.Sl.CK} {a c : ByteArray} {xs ys : List Go.Value}, Go.Sl.eqL (Go.Sl.CK.s :: ks) (Go.Value.string a :: xs) (Go.Value.string c :: ys) = Option.map (fun (r : Bool) => ByteArray.toList a == ByteArray.toList c && r) (Go.Sl.eqL ks xs ys)) ∧
  (∀ {b : Bool} {dflt : Option Go.Next}, Go.Sl.eqR (Option.some b) dflt = Option.some (Go.Next.value (Go.Value.bool b))) ∧
  (∀ {P : Go.Program} {R : Go.Sl.Hp} {t : Go.TypeId} {ks : List Go.Sl.CK} {x y : Go.Operand} {xs ys : List Go.Value}, Go.Sl.eqF P t = Option.some ks → Go.Sl.rBin P R Go.BinOp.eql t x y (Go.Value.agg (List.toArray xs)) (Go.Value.agg (List.toArray ys)) = Go.Sl.eqR (Go.Sl.eqL ks xs ys) (Go.Sl.rBinA P R Go.BinOp.eql t x y (Go.Value.agg (List.toArray xs)) (Go.Value.agg (List.toArray ys)))) ∧
  (∀ {P : Go.Program} {R : Go.Sl.Hp} {t : Go.TypeId} {ks : List Go.Sl.CK} {x y : Go.Operand} {xs ys : List Go.Value}, Go.Sl.eqF P t = Option.some ks → Go.Sl.rBin P R Go.BinOp.neq t x y (Go.Value.agg (List.toArray xs)) (Go.Value.agg (List.toArray ys)) = Go.Sl.eqR (Option.map (fun (r : Bool) => !r) (Go.Sl.eqL ks xs ys)) (Go.Sl.rBinA P R Go.BinOp.neq t x y (Go.Value.agg (List.toArray xs)) (Go.Value.agg (List.toArray ys)))) ∧
  (∀ {P : Go.Program} {R : Go.Sl.Hp} {e : Go.Sl.Env} {d : Option Go.Tmp} {ty : Go.TypeId} {p : String} {af : Array Go.Edge} {g : Option (Nat × Bool)} {t : Go.TypeId} {x i : Go.Operand} {c : Bool}, Go.Sl.rd P R (Go.execOp (Go.Sl.Env.ev e) (Go.Oper.mk d (Go.Op.lookup t x i c) ty p af g)) = Go.Sl.rLook P R t (Go.Sl.Env.ev e x) (Go.Sl.Env.ev e i) c) ∧
  (∀ {P : Go.Program} {G : Go.Sl.Hp} {e : Go.Sl.Env} {d : Option Go.Tmp} {ty : Go.TypeId} {p : String} {af : Array Go.Edge} {g : Option (Nat × Bool)} {t : Go.TypeId} {a b c : Go.Operand} {H : Go.Sl.Hp} {K : Go.Value → Go.Sl.Hp → Prop}, Go.Sl.opV P G (Go.execOp (Go.Sl.Env.ev e) (Go.Oper.mk d (Go.Op.mapUpdate t a b c) ty p af g)) H K = Go.Sl.opMapUp P G t (Go.Sl.Env.ev e a) (Go.Sl.Env.ev e b) (Go.Sl.Env.ev e c) H K) ∧
  (∀ {P : Go.Program} {G : Go.Sl.Hp} {e : Go.Sl.Env} {d : Option Go.Tmp} {ty : Go.TypeId} {p : String} {af : Array Go.Edge} {g : Option (Nat × Bool)} {n : Nat} {args : List Go.Operand} {ts : Array Go.TypeId} {H : Go.Sl.Hp} {K : Go.Value → Go.Sl.Hp → Prop}, Go.Sl.opV P G (Go.execOp (Go.Sl.Env.ev e) (Go.Oper.mk d (Go.Op.call (Go.Call.mk (Go.Callee.value (Go.Operand.tmp n)) (List.toArray args) ts)) ty p af g)) H K = Go.Sl.opCallV P G (e n) (List.map (Go.Sl.Env.ev e) args) H K) ∧
  (∀ {P : Go.Program} {G : Go.Sl.Hp} {k : Go.FuncId} {first cap args : List Go.Value} {H : Go.Sl.Hp} {K : Go.Value → Go.Sl.Hp → Prop}, Go.Sl.goes P k = Bool.true → Go.Sl.opCallV P G (Go.Value.func (Go.Fn.func k) (List.toArray first) (List.toArray cap)) args H K = Go.Sl.CallsH P G k (List.toArray (first ++ (args ++ cap))) H (Go.Sl.retK K)) ∧
  (∀ {P : Go.Program} {G : Go.Sl.Hp} {e : Go.Sl.Env} {H : Go.Sl.Hp} {x : Nat} {t : Go.TypeId} {rs : List Go.ResultVar} {acc : List Go.Value} {k : List Go.Value → Prop}, Go.Sl.resEs P G e H (Go.ResultVar.cell x t :: rs) acc k = Go.Sl.Ex (Go.Sl.rCell P (Go.Sl.Hp.un H G) t (e x)) (Go.Sl.reK P G e H rs acc k)) ∧
  (∀ {P : Go.Program} {G : Go.Sl.Hp} {e : Go.Sl.Env} {H : Go.Sl.Hp} {rs : List Go.ResultVar} {acc : List Go.Value} {k : List Go.Value → Prop} {v : Go.Value}, Go.Sl.reK P G e H rs acc k v = Go.Sl.resEs P G e H rs (acc ++ [v]) k) ∧
  (∀ {P : Go.Program} {R : Go.Sl.Hp} {t : Go.TypeId} {a : Go.Addr}, Go.Sl.rCell P R t (Go.Value.pointer (Option.some a)) = Go.Sl.vl (Go.Sl.ldV P R t a)) ∧
  (∀ {h0 h1 h2 : Go.Sl.Hp} {p : Go.Sl.Hp → Option Go.Next} {K : Go.Value → Prop}, Go.Sl.Each [h0, h1, h2] p K = Go.Sl.Ex (p h0) fun (v : Go.Value) => p h1 = Option.some (Go.Next.value v) ∧ p h2 = Option.some (Go.Next.value v) ∧ K v) ∧
  (∀ {h0 h1 h2 h3 : Go.Sl.Hp} {p : Go.Sl.Hp → Option Go.Next} {K : Go.Value → Prop}, Go.Sl.Each [h0, h1, h2, h3] p K = Go.Sl.Ex (p h0) fun (v : Go.Value) => p h1 = Option.some (Go.Next.value v) ∧ p h2 = Option.some (Go.Next.value v) ∧ p h3 = Option.some (Go.Next.value v) ∧ K v) ∧
  (∀ {h0 h1 h2 h3 h4 : Go.Sl.Hp} {p : Go.Sl.Hp → Option Go.Next} {K : Go.Value → Prop}, Go.Sl.Each [h0, h1, h2, h3, h4] p K = Go.Sl.Ex (p h0) fun (v : Go.Value) => p h1 = Option.some (Go.Next.value v) ∧ p h2 = Option.some (Go.Next.value v) ∧ p h3 = Option.some (Go.Next.value v) ∧ p h4 = Option.some (Go.Next.value v) ∧ K v) ∧
  (∀ {h0 h1 h2 h3 h4 h5 : Go.Sl.Hp} {p : Go.Sl.Hp → Option Go.Next} {K : Go.Value → Prop}, Go.Sl.Each [h0, h1, h2, h3, h4, h5] p K = Go.Sl.Ex (p h0) fun (v : Go.Value) => p h1 = Option.some (Go.Next.value v) ∧ p h2 = Option.some (Go.Next.value v) ∧ p h3 = Option.some (Go.Next.value v) ∧ p h4 = Option.some (Go.Next.value v) ∧ p h5 = Option.some (Go.Next.value v) ∧ K v) ∧
  (∀ {P : Go.Program} {R : Go.Sl.Hp} {t : Go.TypeId} (a : Go.Addr) (k : Go.IntKind) (i : Int), Go.Sl.arIs P t = Bool.true → Go.Sl.rIA P R t (Go.Value.pointer (Option.some a)) (Go.Value.int k i) = if (0 : Int) ≤ i ∧ i < ↑(Go.Sl.arLen P t) then Option.some (Go.Next.value (Go.Value.pointer (Option.some (Go.Addr.add a (Int.toNat i * Go.Sl.arSz P t))))) else Option.none) ∧
  (∀ {P : Go.Program} {G : Go.Sl.Hp} {e : Go.Sl.Env} {d : Option Go.Tmp} {ty : Go.TypeId} {p : String} {af : Array Go.Edge} {g : Option (Nat × Bool)} {t : Go.TypeId} {x y : Go.Operand} {H : Go.Sl.Hp} {K : Go.Value → Go.Sl.Hp → Prop}, Go.Sl.opV P G (Go.execOp (Go.Sl.Env.ev e) (Go.Oper.mk d (Go.Op.makeSlice t x y) ty p af g)) H K = Go.Sl.opMk P G t (Go.Sl.Env.ev e x) (Go.Sl.Env.ev e y) H K) ∧
  (∀ {sz : Nat} {cells : List Go.Value}, Go.Sl.fillA sz cells [] = Option.some cells) ∧
  (∀ {sz : Nat} {cells : List Go.Value} {i : Nat} {v : Go.Value} {rest : List (Nat × Go.Value)}, Go.Sl.fillA sz cells ((i, v) :: rest) = if List.length (Array.toList (Go.Value.cells v)) = sz ∧ i * sz + sz ≤ List.length cells then Go.Sl.fillA sz (Go.Sl.splice cells (i * sz) (Array.toList (Go.Value.cells v))) rest else Option.none) ∧
  (∀ {P : Go.Program} {R : Go.Sl.Hp} {t : Go.TypeId} {ps : List (Nat × Go.Value)}, Go.Sl.abIs P t = Bool.true → Go.Sl.rBuild P R t ps = Go.Sl.vl (Option.map (fun (l : List Go.Value) => Go.Value.agg (List.toArray l)) (Go.Sl.fillA (Go.Sl.abSz P t) (Go.Sl.zcs P t) ps))) ∧
  (∀ {P : Go.Program} {G : Go.Sl.Hp} {e : Go.Sl.Env} {d : Option Go.Tmp} {ty : Go.TypeId} {p : String} {af : Array Go.Edge} {g : Option (Nat × Bool)} {t : Go.TypeId} {a b c : Go.Operand} {H : Go.Sl.Hp} {K : Go.Value → Go.Sl.Hp → Prop}, Go.Sl.opV P G (Go.execOp (Go.Sl.Env.ev e) (Go.Oper.mk d (Go.Op.insert t a b c) ty p af g)) H K = Go.Sl.opMapUp P G t (Go.Sl.Env.ev e a) (Go.Sl.Env.ev e b) (Go.Sl.Env.ev e c) H K) ∧
  (∀ {x y : Nat}, (Nat.ble x y = Bool.true) = (x ≤ y)) ∧
  (∀ (n : Nat), Int.toNat ↑n = n) ∧
  (∀ (n : Nat), n * (1 : Nat) = n) ∧
  (∀ (n : Nat), n + (0 : Nat) = n) ∧
  (∀ (h : Decidable True), Decidable.decide True = Bool.true) ∧
  (∀ (h : Decidable False), Decidable.decide False = Bool.false) ∧
  (∀ {α : Type} [inst : BEq α] [ReflBEq α] (a : α), (a == a) = Bool.true) ∧
  (∀ {α : Type} [inst : BEq α] [LawfulBEq α] (a : α), (a != a) = Bool.false) ∧
  (∀ {α : Type} [inst : BEq α] [LawfulBEq α] {a b : α}, (a == b) = Bool.true ↔ a = b) ∧
  (∀ {α : Type} [inst : BEq α] [LawfulBEq α] {a b : α}, (a != b) = Bool.true ↔ a ≠ b) ∧
  (∀ {α : Type} [inst : BEq α] [LawfulBEq α] {a b : α}, (a == b) = Bool.false ↔ a ≠ b) ∧
  (∀ {α : Type} [inst : BEq α] [LawfulBEq α] {a b : α}, (a != b) = Bool.false ↔ a = b) ∧
  (∀ {α : Type} (a b : α), (a ≠ b) = ¬a = b) ∧
  (∀ (l : List UInt8), ByteArray.toList (Go.Sl.bs l) = l) ∧
  (∀ (l : List UInt8), ByteArray.toList (ByteArray.mk (List.toArray l)) = l) ∧
  (∀ (l : List UInt8), ByteArray.size (Go.Sl.bs l) = List.length l) ∧
  (∀ (l : List UInt8), ByteArray.size (ByteArray.mk (List.toArray l)) = List.length l) ∧
  ((¬True) = False) ∧
  ((¬False) = True) ∧
  (↑(0 : Nat) = (0 : Int)) ∧
  (↑(1 : Nat) = (1 : Int)) ∧
  (Int.toNat (0 : Int) = (0 : Nat)) ∧
  (Int.toNat (1 : Int) = (1 : Nat)) ∧
  (∀ (p : Prop), (True → p) = p) ∧
  (∀ {α : Type} {a b : α}, Option.getD (Option.some a) b = a) ∧
  (∀ {α : Type} {as : List α}, Array.size (List.toArray as) = List.length as) ∧
  (∀ {α : Type} (val val_1 : α), (Option.some val = Option.some val_1) = (val = val_1)) ∧
  (∀ (n : Nat), (0 : Nat) * n = (0 : Nat)) ∧
  (∀ (b : Bool), (b || Bool.true) = Bool.true) ∧
  (∀ (b : Bool), (Bool.true || b) = Bool.true) ∧
  (∀ (b : Bool), (Bool.false || b) = b) ∧
  (∀ (b : Bool), (b && Bool.true) = b) ∧
  (∀ (b : Bool), (Bool.true && b) = b) ∧
  (∀ (b : Bool), (b && Bool.false) = Bool.false) ∧
  (∀ (b : Bool), (Bool.false && b) = Bool.false) ∧
  (∀ (b : Bool), ((!b) = Bool.true) = (b = Bool.false)) ∧
  (∀ (b : Bool), ((!b) = Bool.false) = (b = Bool.true)) :=
  ⟨@Go.Sl.Env.put_at, @Go.Sl.Env.put_none, @Go.Sl.cl_seq, @Go.Sl.cl_region, @Go.Sl.cl_ret, @Go.Sl.cl_skip, @Go.Sl.cl_block, @Go.Sl.cl_exit, @Go.Sl.Gate_true, @Go.Sl.Gate_false, @Go.Sl.BGate_bool, @Go.Sl.cl_cond, @Go.Sl.thenH_normal, @Go.Sl.thenH_ret, @Go.Sl.thenH_exit, @Go.Sl.blockH_normal, @Go.Sl.blockH_ret, @Go.Sl.blockH_exit, @Go.Sl.cList_nil, @Go.Sl.cList_rd, @Go.Sl.cList_x, @Go.Sl.cList_g, @Go.Sl.yieldE_eq, @Go.Sl.endH_ret, @Go.Sl.endH_normal, @Go.Sl.resEs_nil, @Go.Sl.resEs_tmp, @Go.Sl.qv_nil, @Go.Sl.qK_eq, @Go.Sl.qN_eq, @Go.Sl.qM_eq, @Go.Sl.qX_nil, @Go.Sl.qX_cons, @Go.Sl.qU_eq, @Go.Sl.cLK_eq, @Go.Sl.cLX_eq, @Go.Sl.cLU_eq, @Go.Sl.clU_eq, @Go.Sl.apU_eq, @Go.Sl.nwK_eq, @Go.Sl.exK_eq, @Go.Sl.Gate_not, @Go.Sl.qv_s, @Go.Sl.qv_r, @Go.Sl.qv_n, @Go.Sl.qv_x, @Go.Sl.qv_g, @Go.Sl.relA_nil, @Go.Sl.relA_cons, @Go.Sl.isRd_move, @Go.Sl.isRd_assign, @Go.Sl.isRd_pick, @Go.Sl.isRd_nilCheck, @Go.Sl.isRd_load, @Go.Sl.isRd_field, @Go.Sl.isRd_fieldAddr, @Go.Sl.isRd_index, @Go.Sl.isRd_indexAddr, @Go.Sl.isRd_slice, @Go.Sl.isRd_extract, @Go.Sl.isRd_build, @Go.Sl.isRd_binOp, @Go.Sl.isRd_unOp, @Go.Sl.isRd_makeInterface, @Go.Sl.isRd_makeFunc, @Go.Sl.isRd_lookup, @Go.Sl.isRd_store, @Go.Sl.isRd_alloc, @Go.Sl.isRd_box, @Go.Sl.isRd_buildSlice, @Go.Sl.isRd_convert, @Go.Sl.isRd_makeMap, @Go.Sl.isRd_makeSlice, @Go.Sl.isRd_mapUpdate, @Go.Sl.isRd_insert, @Go.Sl.isRd_mapEntry, @Go.Sl.isRd_entryStore, @Go.Sl.isRd_range, @Go.Sl.isRd_next, @Go.Sl.isRd_entry, @Go.Sl.isRd_typeAssert, @Go.Sl.isRd_len, @Go.Sl.isRd_min, @Go.Sl.isRd_max, @Go.Sl.isRd_append, @Go.Sl.isRd_copy, @Go.Sl.isRd_delete, @Go.Sl.isRd_clear, @Go.Sl.isRd_callv, @Go.Sl.vl_some, @Go.Sl.vl_none, @Go.Sl.rd_move, @Go.Sl.rd_assign, @Go.Sl.rd_pick, @Go.Sl.rPick_true, @Go.Sl.rPick_false, @Go.Sl.Ex_pick, @Go.Sl.rd_nilCheck, @Go.Sl.rNil_ptr, @Go.Sl.rNil_func, @Go.Sl.rd_opLoad, @Go.Sl.rLoad_ptr, @Go.Sl.rd_fieldAddr, @Go.Sl.rd_field, @Go.Sl.rd_indexAddr, @Go.Sl.rd_slice, @Go.Sl.rd_extract, @Go.Sl.rExt_tuple, @Go.Sl.rd_mkFunc, @Go.Sl.rd_unOp_not, @Go.Sl.rd_binOp, @Go.Sl.rBin_add, @Go.Sl.rBin_sub, @Go.Sl.rBin_mul, @Go.Sl.rBin_quo, @Go.Sl.rBin_rem, @Go.Sl.rBin_and, @Go.Sl.rBin_or, @Go.Sl.rBin_xor, @Go.Sl.rBin_eql, @Go.Sl.rBin_neq, @Go.Sl.rBin_lss, @Go.Sl.rBin_leq, @Go.Sl.rBin_gtr, @Go.Sl.rBin_geq, @Go.Sl.rBin_shl, @Go.Sl.rBin_shr, @Go.Sl.rBin_ptr_nil, @Go.Sl.rBin_ptr_nnil, @Go.Sl.rBin_slice_nil, @Go.Sl.rBin_slice_nnil, @Go.Sl.rBin_eql_bool, @Go.Sl.rBin_neq_bool, @Go.Sl.rBin_eql_str, @Go.Sl.rBin_neq_str, @Go.Sl.rd_len, @Go.Sl.rd_min2, @Go.Sl.rd_max2, @Go.Sl.min2_int, @Go.Sl.max2_int, @Go.Sl.opV_store, @Go.Sl.opV_box, @Go.Sl.opV_makeMap, @Go.Sl.nw_box, @Go.Sl.nw_makeMap, @Go.Sl.opV_callf, @Go.Sl.opV_append, @Go.Sl.ev_tmp, @Go.Sl.ev_const, @Go.Sl.ev_func, @List.getElem?_toArray, @List.getElem?_cons_succ, @List.getElem?_cons_zero, @Option.bind_some, @if_true, @if_false, @decide_eq_true_eq, @List.getD_cons_zero, @List.getD_cons_succ, @List.cons_append, @List.nil_append, Option.isNone_none, @Option.isNone_some, @Bool.not_true, @Bool.not_false, @Option.map_some, @Option.map_none, @List.map_cons, @List.map_nil, @Bool.false_eq_true, @true_and, @and_true, @List.contains_nil, @List.contains_cons, @Bool.or_false, @Go.Sl.all_nil, @Go.Sl.tuple1_one, @Go.Sl.tuple1_nil, @Go.Sl.tuple1_two, @Go.Sl.Ex_some, @Go.Sl.Ex_ite, @Go.Sl.St_some, @Go.Sl.Each_one, @Go.Sl.Each_two, @Go.Sl.ExN_some, @Go.Sl.yv_bool, @Go.Sl.someb_t, @Go.Sl.someb_f, @decide_eq_false_iff_not, @Go.Sl.rFA_ptr, @Go.Sl.rField_agg, @Go.Sl.rIA_slice, @Go.Sl.rSl_slice_hi, @Go.Sl.rSl_slice_lo, @Go.Sl.rSl_slice_lohi, @Go.Sl.rSl_slice_himx, @Go.Sl.rLen_slice, @Go.Sl.rLen_string, @Go.Sl.rUn_not, @Go.Sl.rUn_neg, @Go.Sl.ldV_eq, @Go.Sl.ldA_one, @Go.Sl.ldA_agg, @Go.Sl.prt_eq, @Go.Sl.prA_one, @Go.Sl.prA_agg, @Go.Sl.opStore_ptr, @Go.Sl.cells_int, @Go.Sl.cells_bool, @Go.Sl.cells_string, @Go.Sl.cells_pointer, @Go.Sl.cells_slice, @Go.Sl.cells_map, @Go.Sl.cells_func, @Go.Sl.cells_nilFunc, @Go.Sl.cells_iface, @Go.Sl.cells_agg, @Go.Sl.nn_nil, @Go.Sl.nn_cons, @Go.Sl.sz1, @Go.Sl.addr_mk, @Nat.zero_add, @List.drop_zero, @List.drop_succ_cons, @List.take_zero, @List.take_succ_cons, @Go.Sl.rd_build, @Go.Sl.rBuild_struct, @Go.Sl.fillL_nil, @Go.Sl.fillL_cons, @Go.Sl.fill1_some, @Go.Sl.splice_eq, @List.length_cons, List.length_nil, @Go.Sl.isRd_cap, @Go.Sl.rd_cap, @Go.Sl.rCap_slice, @Go.Sl.nw_buildSlice, @Go.Sl.opV_buildSlice, @Go.Sl.opB_full, @Go.Sl.nwB_full, @Go.Sl.fullB_nil, @Go.Sl.fullB_cons, @Go.Sl.flatC_nil, @Go.Sl.flatC_cons, @Go.Sl.opAl_some, @Go.Sl.opV_allocS, @Go.Sl.nwAl_some, @Go.Sl.nw_alloc', @Go.Sl.rd_convert, @Go.Sl.opV_convert, @Go.Sl.rConv_int, @Go.Sl.opConv_int, @Go.Sl.rcI_some, @Go.Sl.rConv_str, @Go.Sl.opConv_str, @Go.Sl.rConv_bs, @Go.Sl.opConv_bs, @Option.isSome_some, @Go.Sl.Ex_ite2, @Go.Sl.bits_i64, @Go.Sl.bits_u64, @Go.Sl.bits_u8, @Go.Sl.bits_u16, @Go.Sl.bits_u32, @Go.Sl.wrap_u8, @Go.Sl.yv_undef, @Go.Sl.opAt_eq, @Go.Sl.wantE_none, @Go.Sl.wantE_some, @Go.Sl.eqL_nil, @Go.Sl.eqL_b, @Go.Sl.eqL_i, @Go.Sl.eqL_s, @Go.Sl.eqR_some, @Go.Sl.rBin_eql_agg, @Go.Sl.rBin_neq_agg, @Go.Sl.rd_lookup, @Go.Sl.opV_mapUpdate, @Go.Sl.opV_callt, @Go.Sl.opCallV_func, @Go.Sl.resEs_cell, @Go.Sl.reK_eq, @Go.Sl.rCell_ptr, @Go.Sl.Each_three, @Go.Sl.Each_four, @Go.Sl.Each_five, @Go.Sl.Each_six, @Go.Sl.rIA_arr, @Go.Sl.opV_makeSlice, @Go.Sl.fillA_nil, @Go.Sl.fillA_cons, @Go.Sl.rBuild_arr, @Go.Sl.opV_insert, @Nat.ble_eq, @Int.toNat_natCast, @Nat.mul_one, @Nat.add_zero, @decide_true, @decide_false, @beq_self_eq_true, @bne_self_eq_false, @beq_iff_eq, @bne_iff_ne, @beq_eq_false_iff_ne, @bne_eq_false_iff_eq, @ne_eq, @Go.Sl.bs_toList, @Go.Sl.mk_toList, @Go.Sl.bs_size, @Go.Sl.mk_size, @not_true_eq_false, @not_false_eq_true, @Int.natCast_zero, @Int.natCast_one, @Int.toNat_zero, @Int.toNat_one, @true_implies, @Option.getD_some, @List.size_toArray, @Option.some.injEq, @Nat.zero_mul, @Bool.or_true, @Bool.true_or, @Bool.false_or, @Bool.and_true, @Bool.true_and, @Bool.and_false, @Bool.false_and, @Bool.not_eq_true', @Bool.not_eq_false'⟩
theorem W2 :
  (∀ {n : Int}, (-9223372036854775808 : Int) ≤ n → n ≤ (9223372036854775807 : Int) → Go.IntKind.wrap Go.IntKind.i64 n = n) ∧
  (↑(0 : Nat) = (0 : Int)) ∧
  (∀ (a : Int), a - (0 : Int) = a) ∧
  (∀ (n : Nat), Int.toNat ↑n = n) ∧
  (Int.toNat (0 : Int) = (0 : Nat)) ∧
  (∀ (a : Int), a - a = (0 : Int)) :=
  ⟨@Go.Sl.wrap_id, @Int.natCast_zero, @Int.sub_zero, @Int.toNat_natCast, @Int.toNat_zero, @Int.sub_self⟩
theorem BB :
  (∀ {p : Prop} [inst : Decidable p], (Decidable.decide p = Bool.true) = p) ∧
  (∀ {p : Prop} {x : Decidable p}, Decidable.decide p = Bool.false ↔ ¬p) ∧
  (∀ {α : Type} [inst : BEq α] [LawfulBEq α] {a b : α}, (a == b) = Bool.true ↔ a = b) ∧
  (∀ {α : Type} [inst : BEq α] [LawfulBEq α] {a b : α}, (a != b) = Bool.true ↔ a ≠ b) ∧
  (∀ {α : Type} (a b : α), (a ≠ b) = ¬a = b) ∧
  (∀ (a b : Bool), ((a || b) = Bool.true) = (a = Bool.true ∨ b = Bool.true)) ∧
  (∀ (a b : Bool), ((a && b) = Bool.true) = (a = Bool.true ∧ b = Bool.true)) ∧
  ((Bool.false = Bool.true) = False) ∧
  (∀ (b : Bool), ((!b) = Bool.true) = (b = Bool.false)) ∧
  (∀ (b : Bool), (¬b = Bool.true) = (b = Bool.false)) ∧
  (∀ (b : Bool), ((!b) = Bool.false) = (b = Bool.true)) ∧
  (∀ {α : Type} [inst : BEq α] [LawfulBEq α] {a b : α}, (a == b) = Bool.false ↔ a ≠ b) ∧
  (∀ {α : Type} [inst : BEq α] [LawfulBEq α] {a b : α}, (a != b) = Bool.false ↔ a = b) ∧
  (∀ (p : Prop), (True ↔ p) = p) ∧
  (∀ (p : Prop), (False ↔ p) = ¬p) ∧
  (∀ (p : Prop), (p ↔ True) = p) ∧
  (∀ (p : Prop), (p ↔ False) = ¬p) ∧
  ((¬False) = True) ∧
  ((¬True) = False) ∧
  (∀ (p : Prop), (True ∧ p) = p) ∧
  (∀ (p : Prop), (p ∧ True) = p) ∧
  (∀ (p : Prop), (True ∨ p) = True) ∧
  (∀ (p : Prop), (p ∨ True) = True) ∧
  (∀ (p : Prop), (False ∧ p) = False) ∧
  (∀ (p : Prop), (p ∧ False) = False) ∧
  (∀ (p : Prop), (False ∨ p) = p) ∧
  (∀ (p : Prop), (p ∨ False) = p) :=
  ⟨@decide_eq_true_eq, @decide_eq_false_iff_not, @beq_iff_eq, @bne_iff_ne, @ne_eq, @Bool.or_eq_true, @Bool.and_eq_true, @Bool.false_eq_true, @Bool.not_eq_true', @Bool.not_eq_true, @Bool.not_eq_false', @beq_eq_false_iff_ne, @bne_eq_false_iff_eq, @true_iff, @false_iff, @iff_true, @iff_false, @not_false_eq_true, @not_true_eq_false, @true_and, @and_true, @true_or, @or_true, @false_and, @and_false, @false_or, @or_false⟩
end Go.Sl
