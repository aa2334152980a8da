/- Limits of functions that count rounds: where more rounds tell the same, a function of a number of rounds has one answer, and the limits' equations have no rounds in them. No conditions. -/
import Derived.WalkKit
import Derived.RowKit
namespace Go.Proofs.YtfajcehhcjmofaaV
open Go Go.RowKit
/-- Where the first answers, the second answers the same. -/
def LeO {α:Type} (a b:Option α):Prop:=∀ r,a=some r→b=some r
theorem LeO.refl {α:Type} (a:Option α):LeO a a:=fun _ h=>h
theorem LeO.none {α:Type} (b:Option α):LeO Option.none b:=fun _ h=>by cases h
theorem LeO.trans {α:Type} {a b c:Option α} (h:LeO a b) (k:LeO b c):LeO a c:=fun r hr=>k r (h r hr)
theorem LeO.ite {α:Type} {c:Prop} [Decidable c] {a a' b b':Option α} (h:LeO a a') (k:LeO b b'):LeO (if c then a else b) (if c then a' else b'):=by
 split
 ·exact h
 ·exact k
theorem LeO.bind {α β:Type} {a a':Option α} {f f':α→Option β} (h:LeO a a') (k:∀ x,LeO (f x) (f' x)):LeO (a.bind f) (a'.bind f'):=by
 intro r hr
 obtain ⟨x,hx,hf⟩:=Option.bind_eq_some_iff.1 hr
 exact Option.bind_eq_some_iff.2 ⟨x,h x hx,k x r hf⟩
theorem Zc2 {α:Type} {g:Nat→Option α} (h:∀ k,LeO (g k) (g (k+1))) (k:Nat):∀ j,LeO (g k) (g (k+j))
 | 0=>LeO.refl _
 | j+1=>(Zc2 h k j).trans (h (k+j))
theorem ZfT {α:Type} {g:Nat→Option α} (h:∀ k,LeO (g k) (g (k+1))) {k k':Nat} (hk:k≤k') {r:α} (hr:g k=some r):g k'=some r:=by
 have:=Zc2 h k (k' - k) r hr
 rwa [Nat.add_sub_cancel' hk] at this
def Mono {α:Type} (g:Nat→Option α):Prop:=∀ k,LeO (g k) (g (k+1))
open Classical in
noncomputable def lim {α:Type} (g:Nat→Option α):Option α:=if h:∃ r,∃ k,g k=some r then some h.choose else none
theorem Zdc {α:Type} {g:Nat→Option α} (hm:Mono g) {k k':Nat} (hk:k≤k') {r:α} (h:g k=some r):g k'=some r:=ZfT hm hk h
theorem ZbJ {α:Type} {g:Nat→Option α} (hm:Mono g) {k:Nat} {r:α} (h:g k=some r):lim g=some r:=by
 have hx:∃ r,∃ k,g k=some r:=⟨r,k,h⟩
 unfold lim
 rw [dif_pos hx]
 obtain ⟨k',h'⟩:=hx.choose_spec
 have h1:=Zdc hm (Nat.le_max_left k k') h
 have h2:=Zdc hm (Nat.le_max_right k k') h'
 rw [h1] at h2
 exact h2.symm
theorem Zdy {α:Type} {g:Nat→Option α} {r:α} (h:lim g=some r):∃ k,g k=some r:=by
 unfold lim at h
 split at h
 ·rename_i hx
  obtain ⟨k,hk⟩:=hx.choose_spec
  exact ⟨k,hk.trans h⟩
 ·cases h
theorem ZcA {α:Type} {g:Nat→Option α} (h:∀ k,g k=none):lim g=none:=by
 unfold lim
 rw [dif_neg]
 rintro ⟨r,k,hk⟩
 rw [h k] at hk
 cases hk
/-- Monotone, with this limit. -/
structure Lim {α:Type} (g:Nat→Option α) (r:Option α):Prop where
 mono:Mono g
 eq:lim g=r
theorem Lim.const {α:Type} (a:Option α):Lim (fun _=>a) a:=by
 refine ⟨fun k=>LeO.refl _,?_⟩
 cases a with
 | none=>exact ZcA fun _=>rfl
 | some r=>exact ZbJ (g:=fun _=>some r) (fun k=>LeO.refl _) (k:=0) rfl
theorem Lim.of {α:Type} {g:Nat→Option α} (h:∀ k,LeO (g k) (g (k+1))):Lim g (lim g):=⟨h,rfl⟩
theorem Lim.ite {α:Type} {c:Prop} [Decidable c] {f g:Nat→Option α} {a b:Option α} (hf:Lim f a) (hg:Lim g b):Lim (fun k=>if c then f k else g k) (if c then a else b):=by
 by_cases h:c
 ·simp only[if_pos h]; exact hf
 ·simp only[if_neg h]; exact hg
theorem Lim.bind {α β:Type} {g:Nat→Option α} {f:Nat→α→Option β} {a:Option α} {b:α→Option β} (hg:Lim g a) (hf:∀ x,Lim (fun k=>f k x) (b x)):Lim (fun k=>(g k).bind (f k)) (a.bind b):=by
 have hm:Mono (fun k=>(g k).bind (f k)):=fun k=>LeO.bind (hg.mono k) (fun x=>(hf x).mono k)
 refine ⟨hm,?_⟩
 cases a with
 | none=>
  apply ZcA
  intro k
  cases hk:g k with
  | none=>rfl
  | some r=>have:=ZbJ hg.mono hk; rw [hg.eq] at this; cases this
 | some x=>
  obtain ⟨k,hk⟩:=Zdy hg.eq
  cases hb:b x with
  | none=>
   rw [Option.bind_some,hb]
   apply ZcA
   intro k'
   cases hk':g k' with
   | none=>rfl
   | some y=>
    have h1:=ZbJ hg.mono hk'
    rw [hg.eq] at h1
    cases h1
    rw [Option.bind_some]
    cases hf':f k' x with
    | none=>rfl
    | some z=>have:=ZbJ (hf x).mono hf'; rw [(hf x).eq,hb] at this; cases this
  | some y=>
   rw [Option.bind_some,hb]
   obtain ⟨k',hk'⟩:=Zdy ((hf x).eq.trans hb)
   refine ZbJ hm (k:=max k k') ?_
   have h1:=Zdc hg.mono (Nat.le_max_left k k') hk
   have h2:=Zdc (hf x).mono (Nat.le_max_right k k') hk'
   simp only[h1,Option.bind_some]
   exact h2
theorem Lim.map {α β:Type} {g:Nat→Option α} {a:Option α} (f:α→β) (hg:Lim g a):Lim (fun k=>(g k).map f) (a.map f):=by
 have:=Lim.bind (f:=fun _ x=>some (f x)) hg (fun x=>Lim.const (some (f x)))
 simpa [Option.map_eq_bind,Function.comp_def] using this
/-- One round. -/
theorem Lim.step {α:Type} {g f:Nat→Option α} {r:Option α} (h:∀ k,g (k+1)=f k) (hg:∀ k,LeO (g k) (g (k+1))) (hf:Lim f r):lim g=r:=by
 cases r with
 | none=>
  apply ZcA
  intro k
  cases k with
  | zero=>
   cases h0:g 0 with
   | none=>rfl
   | some z=>have h1:=hg 0 z h0; rw [h] at h1; have:=ZbJ hf.mono h1; rw [hf.eq] at this; cases this
  | succ k=>
   rw [h]
   cases h0:f k with
   | none=>rfl
   | some z=>have:=ZbJ hf.mono h0; rw [hf.eq] at this; cases this
 | some x=>
  obtain ⟨k,hk⟩:=Zdy hf.eq
  exact ZbJ (k:=k+1) hg ((h k).trans hk)
theorem ZgJ {α:Type} {g:Nat→Option α} {r:α} (h:lim g=some r):∃ k,g k=some r:=Zdy h
end Go.Proofs.YtfajcehhcjmofaaV
