/- Part Xj of the proof of ScopeEnds: no condition. -/
import Derived.Test.YtmabojcaklojhaaGreatProg
import Derived.Test.YtmabojcaklojhaaGreatXdd
namespace Go.Rd
open Go.Rex Go.RowKit Go.Rt Go.Proofs
theorem eq9 (l n l' n':Nat) (k:Bool->Rs):eqvF Tryz.prog 9 9 (.str l n) (.str l' n') k=boolF (strEq l n l' n') k:=by kernel_rfl
theorem eq220 (a b c d a' b' c' d':Nat) (k:Bool->Rs):eqvF Tryz.prog 9 220 (.agg [.str a b,.str c d]) (.agg [.str a' b',.str c' d']) k=boolF (strEq a b a' b') (fun x=>Bool.rec (k false) (boolF (strEq c d c' d') fun y=>Bool.rec (k false) (k true) y) x):=by kernel_rfl
theorem of_k {P:Program} {t:TypeId} {x y:AV} {b:Bool} (h:eqvF P 9 t x y (fun r=>if r=b then .ok else .bad 0)=.ok):EqIs P 9 t x y b:=by
 obtain⟨r,h1,h2⟩:=eqvF_ok P 9 t x y _ h
 by_cases e:r=b
 · subst e; exact h2
 · rw [if_neg e] at h1; cases h1
theorem mapT9:MapT Tryz.prog 9 .str where
 und:=⟨.string,by kernel_rfl⟩
 eq:=fun a b ⟨l,n,ha⟩ ⟨l',n',hb⟩=>by
  subst ha hb
  exact of_k (by rw [eq9,boolF_eq]; exact if_pos rfl)
 chk:=fun v ⟨l,n,hv⟩ e ι w=>by subst hv; simp only [ren]; kernel_rfl
theorem mapT220:MapT Tryz.prog 220 .pair where
 und:=Option.isSome_iff_exists.1 (show (Tryz.prog.underlying 220).isSome=true by kernel_rfl)
 eq:=fun x y ⟨a,b,c,d,hx⟩ ⟨a',b',c',d',hy⟩=>by
  subst hx hy
  refine of_k ?_
  rw [eq220,boolF_eq]
  show Bool.rec _ _ (strEq a b a' b')=Rs.ok
  have e:keyEq (.agg [.str a b,.str c d]) (.agg [.str a' b',.str c' d'])=(strEq a b a' b'&&strEq c d c' d'):=rfl
  rw [e]
  cases h1:strEq a b a' b' with
  | false=>rfl
  | true =>
    show boolF (strEq c d c' d') _=Rs.ok
    rw [boolF_eq]
    cases h2:strEq c d c' d' with
    | false=>rfl
    | true=>rfl
 chk:=fun v ⟨a,b,c,d,hv⟩ e ι w=>by subst hv; simp only [ren,renL]; kernel_rfl
def keys7:List (TypeId × KK):=[(9,.str),(220,.pair)]
theorem keys_ok:∀p∈keys7,MapT Tryz.prog p.1 p.2:=all_cons (p:=fun p:TypeId × KK=>MapT Tryz.prog p.1 p.2) mapT9 (all_cons mapT220 all_nil)
def TBL:List (Sp × Gu):=[
 (sp40,gu40),(sp40w,gu40w),(sp38,gu38),(sp38w,gu38w),(sp39,gu39),(sp41,gu41),
 (sp8,gu8),(sp9,gu9),(sp217 0,gu217),(sp217 20,gu217),(sp150 0,gu150),(sp150 20,gu150),
 (sp151 0,gu151),(sp151 20,gu151),(sp149 0,guD 149),(sp149 20,guD 149),(sp91 0,gu91),(sp91 20,gu91),
 (sp85,guD 85),(sp86,guD 86),(sp87,gu87),(sp88,gu88),(sp89,guD 89),(sp90,gu90),
 (sp42,gu42),(sp43,gu43),(sp45 0,gu45),(sp45 20,gu45),(sp44 0,guD 44),(sp44 20,guD 44),
 (sp46,gu46),(sp93,guD 93),(sp92,gu92),(sp47,gu47),(sp94,gu94),(sp95,guD 95),
 (sp48,gu48),(sp10,gu10),(sp122n,guD 122),(sp122,guD 122),(sp61 true,gu61),(sp61 false,gu61),
 (sp65 true,guD 65),(sp65 false,guD 65),(sp155 true,guD 155),(sp155 false,guD 155),(sp154 true,guD 154),(sp154 false,guD 154),
 (sp157 true,gu157),(sp157 false,gu157),(sp449,guD 449),(sp450,guD 450),(sp345,guD 345),(sp346,guD 346),
 (sp53 0,guD 53),(sp109 0,guD 109),(sp107 0,guE 107 1),(sp108 0,guE 108 2),(sp111 0,guD 111),(sp110 0,guE 110 3),
 (sp54 0,guD 54),(sp153 0,guD 153),(sp152 0,guE 152 4),(sp100 0,guD 100),(sp102 0,guD 102),(sp101 0,guE 101 5),
 (sp99 0,guD 99),(sp98 0,guE 98 7),(sp97 0,guD 97),(sp96 0,guE 96 6),(sp49 0,guD 49),(sp53 60,guD 53),
 (sp109 60,guD 109),(sp107 60,guE 107 1),(sp108 60,guE 108 2),(sp111 60,guD 111),(sp110 60,guE 110 3),(sp54 60,guD 54),
 (sp153 60,guD 153),(sp152 60,guE 152 4),(sp100 60,guD 100),(sp102 60,guD 102),(sp101 60,guE 101 5),(sp99 60,guD 99),
 (sp98 60,guE 98 7),(sp97 60,guD 97),(sp96 60,guE 96 6),(sp49 60,guD 49),(sp218,gu218),(sp103 true,guD 103),
 (sp105 true,guD 105),(sp219 true,gu219 true),(sp156 true,gu156 true),(sp104 true,gu104 true),(sp106 true,gu106 true),(sp50 true,gu50 true),
 (sp11 true,gu11 true),(sp103 false,guD 103),(sp105 false,guD 105),(sp219 false,gu219 false),(sp156 false,gu156 false),(sp104 false,gu104 false),
 (sp106 false,gu106 false),(sp50 false,gu50 false),(sp11 false,gu11 false),(sp12,guD 12),(sp13,guD 13),(sp55,gu55),
 (sp55d,gu55d),(sp52,gu52),(sp51,guD 51),(sp14,gu14),(sp15,guD 15),(sp16,gu16),
 (sp17,gu17),(sp18,guD 18),(sp19,guD 19),(sp20,gu20),(sp21,guD 21),(sp3,gu3)]
def tbl:List Sp:=TBL.map (·.1)++[sp7]
theorem mixed:Tryz.prog.follows .mixedOrders=true:=by kernel_rfl
end Go.Rd
