/- Calls begin; loops; what is left when a call ends. No conditions but those that the lemmas state. -/
import Derived.Test.YtfajcehhcjmofaaS2
namespace Go.Proofs.YtfajcehhcjmofaaV
open Go Go.RowKit
set_option linter.unusedVariables false
set_option linter.unusedSimpArgs false
def Zdi:Nat→List T→St→St
 | _,[],st=>st
 | k,x::xs,st=>Zdi (k+1) xs (st.put k (.t x))
def Zcu:Nat→List Obj→St→St
 | _,[],st=>st
 | k,x::xs,st=>Zcu (k+1) xs (st.obj (.par k) (some x))
theorem Zfr:∀ (xs:List T) (k:Nat) (st:St),(Zdi k xs st).o=st.o
 | [],_,_=>rfl
 | x::xs,k,st=>Zfr xs (k+1) _
theorem Zfs:∀ (xs:List T) (k:Nat) (st:St) (t:Nat),(Zdi k xs st).s t=if k≤t∧t<k+xs.length then Zbn xs (t - k) else st.s t
  | [],k,st,t=>by
    rw [if_neg (by simp)]; rfl
  | x :: xs,k,st,t=>by
    show (Zdi (k+1) xs (st.put k (.t x))).s t=_
    rw [Zfs xs (k+1)]
    by_cases h:t=k
    · subst h
      rw [if_neg (by omega),if_pos ⟨Nat.le_refl _,by simp⟩]
      simp [St.put,Zbn]
    · by_cases h2:k≤t∧t<k + (x::xs).length
      · rw [if_pos h2,if_pos (by simp at h2; omega)]
        unfold Zbn
        rw [show t - k=(t - (k+1))+1 by omega]
        rfl
      · rw [if_neg h2,if_neg (by simp at h2; omega)]
        simp [St.put,h]
theorem ZfC:∀ (xs:List Obj) (k:Nat) (st:St),(Zcu k xs st).s=st.s
 | [],_,_=>rfl
 | x::xs,k,st=>ZfC xs (k+1) _
theorem Zd1:∀ (xs:List Obj) (k:Nat) (st:St) (a b:Nat),(Zcu k xs st).o (.loc a b)=st.o (.loc a b)
 | [],_,_,_,_=>rfl
 | x::xs,k,st,a,b=>by
  show (Zcu (k+1) xs (st.obj (.par k) (some x))).o (.loc a b)=_
  rw [Zd1 xs (k+1)]; simp [St.obj]
theorem Zd2:∀ (xs:List Obj) (k:Nat) (st:St) (j:Nat),(Zcu k xs st).o (.par j)=if k≤j∧j<k+xs.length then xs[j - k]? else st.o (.par j)
  | [],k,st,j=>by rw [if_neg (by simp)]; rfl
  | x :: xs,k,st,j=>by
    show (Zcu (k+1) xs (st.obj (.par k) (some x))).o (.par j)=_
    rw [Zd2 xs (k+1)]
    by_cases h:j=k
    · subst h
      rw [if_neg (by omega),if_pos ⟨Nat.le_refl _,by simp⟩]
      simp [St.obj]
    · by_cases h2:k≤j∧j<k + (x::xs).length
      · rw [if_pos h2,if_pos (by simp at h2; omega),show j - k=(j - (k+1))+1 by omega]
        rfl
      · rw [if_neg h2,if_neg (by simp at h2; omega)]
        simp [St.obj,h]
theorem Ze2 (args:List T) (ins:List Obj):(⟨Zbn args,Zj ins⟩:St)=Zdi 0 args (Zcu 0 ins S0):=by
 apply congr (congrArg St.mk ?_) ?_
 ·funext t
  rw [Zfs]
  by_cases h:0≤t∧t<0+args.length
  ·rw [if_pos h]; rfl
  ·rw [if_neg h,ZfC]
   unfold Zbn
   rw [List.getElem?_eq_none (by omega)]
   rfl
 ·rw [Zfr]
  funext i
  cases i with
  | loc a b=>rw [Zd1]; rfl
  | par j=>
   rw [Zd2]
   by_cases h:0≤j∧j<0+ins.length
   ·rw [if_pos h]; rfl
   ·rw [if_neg h]
    show ins[j]?=none
    exact List.getElem?_eq_none (by omega)
theorem EE_run {F:Nat→Option IFn} {f:Nat} {fn:IFn} (h:F f=some fn) {args:List T} {ins:List Obj} (hn:args.length=fn.np) (ht:fn.tk=false:=by rfl):EE F f args ins=KK F (FF fn.res ins.length) [.code fn.body] (Zdi 0 args (Zcu 0 ins S0)):=by
 rw [←Ze2]
 obtain ⟨np,body,res,tk⟩:=fn
 cases ht
 simp only[EE,ZaM,h,Option.bind_some,hn,if_true,KK]
 rfl
theorem Zjl {F:Nat→Option IFn} {f:Nat} {fn:IFn} (h:F f=some fn) {args:List T} {ins:List Obj} (hn:args.length=fn.np) (ht:fn.tk=true:=by rfl):EE F f args ins=KK F (FT fn.res ins.length) [.code fn.body] (Zdi 0 args (Zcu 0 ins S0)):=by
 rw [←Ze2]
 obtain ⟨np,body,res,tk⟩:=fn
 cases ht
 simp only[EE,ZaM,h,Option.bind_some,hn,if_true,KK]
 rfl
/-- A loop: what holds of a state, and what comes of it. -/
theorem Zji {F:Nat→Option IFn} {fin:St→Option Ret} {is:List Za} {c:IC} {α:Type} (Inv:α→St→Prop) (μ:α→Nat) (Q:α→Option Ret)
  (h:∀ a st,Inv a st→(∀ a' st',μ a'<μ a→Inv a' st'→KK F fin (.inLoop c::is) st'=Q a')→KK F fin (.code c::.inLoop c::is) st=Q a) {st:St} (a:α) (hI:Inv a st):KK F fin (.code (.loop c)::is) st=Q a:=by
 rw [ZgP]
 have all:∀ n a st,μ a<n→Inv a st→KK F fin (.inLoop c::is) st=Q a:=by
  intro n
  induction n with
  | zero=>intro a st h0; omega
  | succ n ih=>
   intro a st hn hI
   rw [ZfS]
   exact h a st hI (fun a' st' hm hI'=>ih a' st' (by omega) hI')
 exact all (μ a+1) a st (by omega) hI
end Go.Proofs.YtfajcehhcjmofaaV
