/- errors.Is where both are the error 0 of api.Errno. Turned out of the kit's worked contracts of errors.Is; the law of '==' out of the kit's note 10. -/
import Derived.Test.YtpmgpcklieincaaGreatDoorProg
import Derived.KernelRfl
import Derived.WalkKit
import Derived.LaidEql
import Derived.Stop.Asserts
import Derived.RowKitTokens
namespace Go
section
variable {P:Program} (w:World)
theorem Vy (d:Nat){ti tn:TypeId}{ms:Array (String×TypeId)}{i:TypeInfo}{k:IntKind}(a b:Int)
  (hi:P.underlying ti=some (.interface ms)) (hn:P.underlying tn=some (.int k)) (hinfo:P.info? tn=some i) (hcomp:i.comparable=true) :
  (Op.equalIn (d+2) ti (.iface tn (.int k a)) (.iface tn (.int k b))).run P w = .ok (a==b) w:=by
 simp [Op.equalIn,run_underlying hi,run_underlying hn,typeInfo,hinfo,hcomp]
theorem JY {ti tn:TypeId}{ms:Array (String×TypeId)}{i:TypeInfo}{k:IntKind}(a b:Int)
  (hi:P.underlying ti=some (.interface ms)) (hn:P.underlying tn=some (.int k)) (hinfo:P.info? tn=some i) (hcomp:i.comparable=true) :
  (binOp .eql ti (.iface tn (.int k a)) (.iface tn (.int k b))).run P w = .ok (.bool (a==b)) w:=by
 simp only [binOp]
 simp [Op.equal,Op.maxDepth,Vy w 9998 a b hi hn hinfo hcomp]
end
end Go
set_option maxRecDepth 100000
namespace Go.Proofs.YtpmgpcklieincaaGreatDoor
open Go Go.Proofs Go.RowKit Go.Extern.Stop Go.Stop Go.Extern
theorem qcp (v:Value)(w:World):(Extern.ReflectliteType.typeOf #[.iface 32 v]).run Tryz.prog w = .ok (.iface 172 (.agg #[.pointer (some ⟨3,32,none⟩)])) w:=by kernel_rfl
theorem Wl (w:World):((Extern.ReflectliteType.method λt=>do Go.Extern.Rtype.noPackHeld "Comparable" t; ((λa=>Value.bool a.comparable) <$> typeInfo t)) #[.agg #[.pointer (some ⟨3,32,none⟩)]]).run Tryz.prog w = .ok (.bool true) w:=by kernel_rfl
theorem JR (v:Value)(w:World):(Go.method 377 172 v "Comparable").run Tryz.prog w = .ok (167,v) w:=by kernel_rfl
theorem qfD:(Tryz.prog.info? 32).map (·.comparable)=some true:=by kernel_rfl
theorem qh0 (w:World) :
  Calls Tryz.prog 34 #[.iface 32 (.int .i64 0),.iface 32 (.int .i64 0)] w λe w'=>e = .returned (.bool true)∧w'=w:=by
 obtain ⟨i,hi,hcmp⟩:=Option.map_eq_some_iff.1 qfD
 have h8:=@run_callFunc_extern Tryz.prog 59 _ Extern.ReflectliteType.typeOf Tryz.func59 (by kernel_rfl) (by kernel_rfl) (by kernel_rfl) (by kernel_rfl)
 have h32:=@run_callFunc_extern Tryz.prog 167 _ (Extern.ReflectliteType.method λt=>do Go.Extern.Rtype.noPackHeld "Comparable" t; pure (.bool (<- typeInfo t).comparable)) Tryz.func167 (by kernel_rfl) (by kernel_rfl) (by kernel_rfl) (by kernel_rfl)
 have tT:=qcp
 have cT:=Wl
 have mR:=JR
 have heq:=JY (P:=Tryz.prog) w 0 0 Tryz.underlying140 Tryz.underlying32 hi hcmp
 go_enter Tryz.func34,Tryz.ntmps34
 go_wp2
 refine wp_loop_rounds 1 ?_
 rw [rounds_succ]
 go_wp2
 go_ret
 exact ⟨rfl,rfl⟩
theorem qil (v:Value)(xT:TypeId)(w:World):(Instr.typeAssert (.iface 32 v) xT 174 true).run Tryz.prog w = .ok (.tuple #[.nilIface,.bool false]) w:=run_typeAssert_lacksB Tryz.underlying174 (by kernel_rfl) (by kernel_rfl) v xT w
theorem qff (v:Value)(xT:TypeId)(w:World):(Instr.typeAssert (.iface 32 v) xT 177 true).run Tryz.prog w = .ok (.tuple #[.nilIface,.bool false]) w:=run_typeAssert_lacksB Tryz.underlying177 (by kernel_rfl) (by kernel_rfl) v xT w
theorem qep (v:Value)(xT:TypeId)(w:World):(Instr.typeAssert (.iface 32 v) xT 179 true).run Tryz.prog w = .ok (.tuple #[.nilIface,.bool false]) w:=run_typeAssert_lacksB Tryz.underlying179 (by kernel_rfl) (by kernel_rfl) v xT w
theorem qhr (x:Int)(hx:x≠0)(w:World) :
  Calls Tryz.prog 34 #[.iface 32 (.int .i64 x),.iface 32 (.int .i64 0)] w λe w'=>e = .returned (.bool false)∧w'=w:=by
 obtain ⟨i,hi,hcmp⟩:=Option.map_eq_some_iff.1 qfD
 have h8:=@run_callFunc_extern Tryz.prog 59 _ Extern.ReflectliteType.typeOf Tryz.func59 (by kernel_rfl) (by kernel_rfl) (by kernel_rfl) (by kernel_rfl)
 have h32:=@run_callFunc_extern Tryz.prog 167 _ (Extern.ReflectliteType.method λt=>do Go.Extern.Rtype.noPackHeld "Comparable" t; pure (.bool (<- typeInfo t).comparable)) Tryz.func167 (by kernel_rfl) (by kernel_rfl) (by kernel_rfl) (by kernel_rfl)
 have tT:=qcp
 have cT:=Wl
 have mR:=JR
 have heq:=JY (P:=Tryz.prog) w x 0 Tryz.underlying140 Tryz.underlying32 hi hcmp
 have hx':(x==0)=false:=by simpa using hx
 rw [hx'] at heq
 have a1:=qil
 have a2:=qff
 have a3:=qep
 go_enter Tryz.func34,Tryz.ntmps34
 go_wp2
 refine wp_loop_rounds 1 ?_
 rw [rounds_succ]
 go_wp2
 go_ret
 exact ⟨rfl,rfl⟩
end Go.Proofs.YtpmgpcklieincaaGreatDoor
