/- Facts on types,and which functions can be called. -/
import Derived.Test.YtfkhlbhjhdpkoaaDoorZtaf
import Derived.Test.YtfkhlbhjhdpkoaaDoorRows
set_option linter.unusedVariables false
set_option linter.unusedSimpArgs false
namespace Go.Proofs.YtfkhlbhjhdpkoaaDoor
open Go.RowKit
theorem Jh0:Kn Tryd.prog 3=true:=by kernel_rfl
theorem Jjq:Jl Tryd.prog 3=1:=by kernel_rfl
theorem Jkh:tAgg Tryd.prog 3=false:=by kernel_rfl
theorem JkG:tZok Tryd.prog 3=true:=by kernel_rfl
theorem tZ_3:tZ Tryd.prog 3=[.int .i64 0]:=by kernel_rfl
theorem JlX:tCS Tryd.prog 3=[0]:=by kernel_rfl
theorem Jhn:V2 Tryd.prog 3=8:=by kernel_rfl
theorem Jim:Kn Tryd.prog 4=true:=by kernel_rfl
theorem JiP:Jl Tryd.prog 4=1:=by kernel_rfl
theorem Jkz:tAgg Tryd.prog 4=false:=by kernel_rfl
theorem JkM:tZok Tryd.prog 4=true:=by kernel_rfl
theorem tZ_4:tZ Tryd.prog 4=[.bool false]:=by kernel_rfl
theorem JlW:tCS Tryd.prog 4=[0]:=by kernel_rfl
theorem Jij:Kn Tryd.prog 5=true:=by kernel_rfl
theorem Jjr:Jl Tryd.prog 5=1:=by kernel_rfl
theorem JkS:tAgg Tryd.prog 5=false:=by kernel_rfl
theorem JkL:tZok Tryd.prog 5=true:=by kernel_rfl
theorem tZ_5:tZ Tryd.prog 5=[.int .u8 0]:=by kernel_rfl
theorem JlR:tCS Tryd.prog 5=[0]:=by kernel_rfl
theorem Jip:V2 Tryd.prog 5=1:=by kernel_rfl
theorem JlS:tZ1 Tryd.prog 5=true:=by kernel_rfl
theorem Jhj:Kn Tryd.prog 9=true:=by kernel_rfl
theorem Jjn:Jl Tryd.prog 9=1:=by kernel_rfl
theorem JkO:tAgg Tryd.prog 9=false:=by kernel_rfl
theorem Jk1:tZok Tryd.prog 9=true:=by kernel_rfl
theorem tZ_9:tZ Tryd.prog 9=[str []]:=by kernel_rfl
theorem JlT:tCS Tryd.prog 9=[0]:=by kernel_rfl
theorem Jhm:V2 Tryd.prog 9=16:=by kernel_rfl
theorem Je2:Jas Tryd.prog 9=true:=by kernel_rfl
theorem Jhp:JaI Tryd.prog 23=1:=by kernel_rfl
theorem JgW:JM Tryd.prog 23=true:=by kernel_rfl
theorem Jht:Jk Tryd.prog 23=33:=by kernel_rfl
theorem JgA:JbY 23=true:=by kernel_rfl
theorem Jhq:ZA 23=true:=by kernel_rfl
theorem JhH:JaI Tryd.prog 24=1:=by kernel_rfl
theorem Jf9:JM Tryd.prog 24=true:=by kernel_rfl
theorem Jhu:Jk Tryd.prog 24=41:=by kernel_rfl
theorem Jge:JbY 24=true:=by kernel_rfl
theorem Jik:ZA 24=true:=by kernel_rfl
theorem Jf3:Kn Tryd.prog 26=true:=by kernel_rfl
theorem Jhl:Jl Tryd.prog 26=1:=by kernel_rfl
theorem Ji6:tAgg Tryd.prog 26=false:=by kernel_rfl
theorem Jki:tCS Tryd.prog 26=[0]:=by kernel_rfl
theorem Jg1:Kn Tryd.prog 28=true:=by kernel_rfl
theorem Jie:Jl Tryd.prog 28=3:=by kernel_rfl
theorem JiX:tAgg Tryd.prog 28=true:=by kernel_rfl
theorem Jjs:tZok Tryd.prog 28=true:=by kernel_rfl
theorem JlY:tZ Tryd.prog 28=[.int .i64 0,.int .i64 0,.int .i64 0]:=by kernel_rfl
theorem Jj6:tCS Tryd.prog 28=[0,0,0]:=by kernel_rfl
theorem Jgf:JdB Tryd.prog 28=true:=by kernel_rfl
theorem Jh8:Jei Tryd.prog 28=true:=by kernel_rfl
theorem Jga:Jd2 Tryd.prog 28=[1,1,1]:=by kernel_rfl
theorem JdF:KR Tryd.prog 28 0=true:=by kernel_rfl
theorem JgY:tOff Tryd.prog 28 0=0:=by kernel_rfl
theorem JgN:tFld Tryd.prog 28 0=26:=by kernel_rfl
theorem JdV:KR Tryd.prog 28 1=true:=by kernel_rfl
theorem Jgo:tOff Tryd.prog 28 1=1:=by kernel_rfl
theorem Jgh:tFld Tryd.prog 28 1=3:=by kernel_rfl
theorem JdE:KR Tryd.prog 28 2=true:=by kernel_rfl
theorem Jg2:tOff Tryd.prog 28 2=2:=by kernel_rfl
theorem JgF:tFld Tryd.prog 28 2=3:=by kernel_rfl
theorem JgQ:Kn Tryd.prog 33=true:=by kernel_rfl
theorem Jig:Jl Tryd.prog 33=2:=by kernel_rfl
theorem Jjc:tAgg Tryd.prog 33=true:=by kernel_rfl
theorem JiR:tZok Tryd.prog 33=true:=by kernel_rfl
theorem JlQ:tZ Tryd.prog 33=[str [],str []]:=by kernel_rfl
theorem Jk4:tCS Tryd.prog 33=[0,0]:=by kernel_rfl
theorem Jf0:V2 Tryd.prog 33=32:=by kernel_rfl
theorem JgZ:JdB Tryd.prog 33=true:=by kernel_rfl
theorem Jh6:Jei Tryd.prog 33=true:=by kernel_rfl
theorem JfV:Jd2 Tryd.prog 33=[2,2]:=by kernel_rfl
theorem JdZ:KR Tryd.prog 33 0=true:=by kernel_rfl
theorem JgR:tOff Tryd.prog 33 0=0:=by kernel_rfl
theorem JfX:tFld Tryd.prog 33 0=9:=by kernel_rfl
theorem JdI:KR Tryd.prog 33 1=true:=by kernel_rfl
theorem JfY:tOff Tryd.prog 33 1=1:=by kernel_rfl
theorem Jgj:tFld Tryd.prog 33 1=9:=by kernel_rfl
theorem Jf2:Kn Tryd.prog 41=true:=by kernel_rfl
theorem JhG:Jl Tryd.prog 41=4:=by kernel_rfl
theorem Jjt:tAgg Tryd.prog 41=true:=by kernel_rfl
theorem Jjg:tZok Tryd.prog 41=true:=by kernel_rfl
theorem Jl0:tZ Tryd.prog 41=[.int .i64 0,.int .i64 0,.int .i64 0,str []]:=by kernel_rfl
theorem Jk2:tCS Tryd.prog 41=[0,0,0,0]:=by kernel_rfl
theorem Jf6:V2 Tryd.prog 41=40:=by kernel_rfl
theorem Jf7:JdB Tryd.prog 41=true:=by kernel_rfl
theorem JdC:KR Tryd.prog 41 0=true:=by kernel_rfl
theorem Jgn:tOff Tryd.prog 41 0=0:=by kernel_rfl
theorem Jgb:tFld Tryd.prog 41 0=3:=by kernel_rfl
theorem Jdy:KR Tryd.prog 41 1=true:=by kernel_rfl
theorem JgH:tOff Tryd.prog 41 1=1:=by kernel_rfl
theorem Jgl:tFld Tryd.prog 41 1=3:=by kernel_rfl
theorem JdS:KR Tryd.prog 41 2=true:=by kernel_rfl
theorem JgJ:tOff Tryd.prog 41 2=2:=by kernel_rfl
theorem JgV:tFld Tryd.prog 41 2=3:=by kernel_rfl
theorem JdO:KR Tryd.prog 41 3=true:=by kernel_rfl
theorem Jgi:tOff Tryd.prog 41 3=3:=by kernel_rfl
theorem Jgx:tFld Tryd.prog 41 3=9:=by kernel_rfl
theorem JgM:Kn Tryd.prog 48=true:=by kernel_rfl
theorem Jhy:Jl Tryd.prog 48=1:=by kernel_rfl
theorem JiU:tAgg Tryd.prog 48=false:=by kernel_rfl
theorem JkI:tCS Tryd.prog 48=[1]:=by kernel_rfl
theorem Jgk:JM Tryd.prog 48=true:=by kernel_rfl
theorem JhP:Jk Tryd.prog 48=5:=by kernel_rfl
theorem JgI:JbY 48=false:=by kernel_rfl
theorem JhV:ZA 48=false:=by kernel_rfl
theorem Jgt:Kn Tryd.prog 49=true:=by kernel_rfl
theorem Jid:Jl Tryd.prog 49=1:=by kernel_rfl
theorem Ji8:tAgg Tryd.prog 49=false:=by kernel_rfl
theorem Ji7:tZok Tryd.prog 49=true:=by kernel_rfl
theorem JlU:tZ Tryd.prog 49=[.slice none 0 0]:=by kernel_rfl
theorem Jlc:tCS Tryd.prog 49=[1]:=by kernel_rfl
theorem Jgy:JM Tryd.prog 49=true:=by kernel_rfl
theorem JhU:Jk Tryd.prog 49=9:=by kernel_rfl
theorem Jg5:JbY 49=true:=by kernel_rfl
theorem JhC:ZA 49=true:=by kernel_rfl
theorem JgO:JM Tryd.prog 81=true:=by kernel_rfl
theorem JhX:Jk Tryd.prog 81=3:=by kernel_rfl
theorem y_3:((((type_of% @Tryd.underlying3)∧(type_of% @Jkh))∧((type_of% @Jhn)∧(type_of% @JlX)))∧(((type_of% @Jh0)∧(type_of% @Jjq))∧((type_of% @tZ_3)∧(type_of% @JkG)))):=⟨⟨⟨@Tryd.underlying3,@Jkh⟩,⟨@Jhn,@JlX⟩⟩,⟨⟨@Jh0,@Jjq⟩,⟨@tZ_3,@JkG⟩⟩⟩
theorem y_4:(((type_of% @Tryd.underlying4)∧((type_of% @Jkz)∧(type_of% @JlW)))∧(((type_of% @Jim)∧(type_of% @JiP))∧((type_of% @tZ_4)∧(type_of% @JkM)))):=⟨⟨@Tryd.underlying4,⟨@Jkz,@JlW⟩⟩,⟨⟨@Jim,@JiP⟩,⟨@tZ_4,@JkM⟩⟩⟩
theorem y_5:((((type_of% @Tryd.underlying5)∧(type_of% @JkS))∧((type_of% @Jip)∧(type_of% @JlR)))∧(((type_of% @Jij)∧(type_of% @Jjr))∧((type_of% @JlS)∧((type_of% @tZ_5)∧(type_of% @JkL))))):=⟨⟨⟨@Tryd.underlying5,@JkS⟩,⟨@Jip,@JlR⟩⟩,⟨⟨@Jij,@Jjr⟩,⟨@JlS,⟨@tZ_5,@JkL⟩⟩⟩⟩
theorem y_9:((((type_of% @Tryd.underlying9)∧(type_of% @JkO))∧((type_of% @Jhm)∧(type_of% @JlT)))∧(((type_of% @Jhj)∧(type_of% @Je2))∧((type_of% @Jjn)∧((type_of% @tZ_9)∧(type_of% @Jk1))))):=⟨⟨⟨@Tryd.underlying9,@JkO⟩,⟨@Jhm,@JlT⟩⟩,⟨⟨@Jhj,@Je2⟩,⟨@Jjn,⟨@tZ_9,@Jk1⟩⟩⟩⟩
theorem y_23:(((type_of% @JgA)∧(type_of% @Jhq))∧((type_of% @Jht)∧((type_of% @Jhp)∧(type_of% @JgW)))):=⟨⟨@JgA,@Jhq⟩,⟨@Jht,⟨@Jhp,@JgW⟩⟩⟩
theorem y_24:(((type_of% @Jge)∧(type_of% @Jik))∧((type_of% @Jhu)∧((type_of% @JhH)∧(type_of% @Jf9)))):=⟨⟨@Jge,@Jik⟩,⟨@Jhu,⟨@JhH,@Jf9⟩⟩⟩
theorem y_26:(((type_of% @Ji6)∧(type_of% @Jki))∧((type_of% @Jf3)∧(type_of% @Jhl))):=⟨⟨@Ji6,@Jki⟩,⟨@Jf3,@Jhl⟩⟩
theorem y_28:(((((type_of% @JiX)∧(type_of% @Jj6))∧((type_of% @Jh8)∧(type_of% @JgN)))∧(((type_of% @Jgh)∧(type_of% @JgF))∧((type_of% @Jga)∧((type_of% @Jg1)∧(type_of% @JgY)))))∧((((type_of% @Jgo)∧(type_of% @Jg2))∧((type_of% @Jgf)∧(type_of% @Jie)))∧(((type_of% @JdF)∧(type_of% @JdV))∧((type_of% @JdE)∧((type_of% @JlY)∧(type_of% @Jjs)))))):=⟨⟨⟨⟨@JiX,@Jj6⟩,⟨@Jh8,@JgN⟩⟩,⟨⟨@Jgh,@JgF⟩,⟨@Jga,⟨@Jg1,@JgY⟩⟩⟩⟩,⟨⟨⟨@Jgo,@Jg2⟩,⟨@Jgf,@Jie⟩⟩,⟨⟨@JdF,@JdV⟩,⟨@JdE,⟨@JlY,@Jjs⟩⟩⟩⟩⟩
theorem y_33:(((((type_of% @Jjc)∧(type_of% @Jf0))∧((type_of% @Jk4)∧(type_of% @Jh6)))∧(((type_of% @JfX)∧(type_of% @Jgj))∧((type_of% @JfV)∧(type_of% @JgQ))))∧((((type_of% @JgR)∧(type_of% @JfY))∧((type_of% @JgZ)∧(type_of% @Jig)))∧(((type_of% @JdZ)∧(type_of% @JdI))∧((type_of% @JlQ)∧(type_of% @JiR))))):=⟨⟨⟨⟨@Jjc,@Jf0⟩,⟨@Jk4,@Jh6⟩⟩,⟨⟨@JfX,@Jgj⟩,⟨@JfV,@JgQ⟩⟩⟩,⟨⟨⟨@JgR,@JfY⟩,⟨@JgZ,@Jig⟩⟩,⟨⟨@JdZ,@JdI⟩,⟨@JlQ,@JiR⟩⟩⟩⟩
theorem y_41:(((((type_of% @Jjt)∧(type_of% @Jf6))∧((type_of% @Jk2)∧((type_of% @Jgb)∧(type_of% @Jgl))))∧(((type_of% @JgV)∧(type_of% @Jgx))∧((type_of% @Jf2)∧((type_of% @Jgn)∧(type_of% @JgH)))))∧((((type_of% @JgJ)∧(type_of% @Jgi))∧((type_of% @Jf7)∧((type_of% @JhG)∧(type_of% @JdC))))∧(((type_of% @Jdy)∧(type_of% @JdS))∧((type_of% @JdO)∧((type_of% @Jl0)∧(type_of% @Jjg)))))):=⟨⟨⟨⟨@Jjt,@Jf6⟩,⟨@Jk2,⟨@Jgb,@Jgl⟩⟩⟩,⟨⟨@JgV,@Jgx⟩,⟨@Jf2,⟨@Jgn,@JgH⟩⟩⟩⟩,⟨⟨⟨@JgJ,@Jgi⟩,⟨@Jf7,⟨@JhG,@JdC⟩⟩⟩,⟨⟨@Jdy,@JdS⟩,⟨@JdO,⟨@Jl0,@Jjg⟩⟩⟩⟩⟩
theorem y_48:((((type_of% @Tryd.underlying48)∧(type_of% @JgI))∧((type_of% @JhV)∧(type_of% @JiU)))∧(((type_of% @JkI)∧(type_of% @JhP))∧((type_of% @JgM)∧((type_of% @Jhy)∧(type_of% @Jgk))))):=⟨⟨⟨@Tryd.underlying48,@JgI⟩,⟨@JhV,@JiU⟩⟩,⟨⟨@JkI,@JhP⟩,⟨@JgM,⟨@Jhy,@Jgk⟩⟩⟩⟩
theorem y_49:((((type_of% @Jg5)∧(type_of% @JhC))∧((type_of% @Ji8)∧((type_of% @Jlc)∧(type_of% @JhU))))∧(((type_of% @Jgt)∧(type_of% @Jid))∧((type_of% @Jgy)∧((type_of% @JlU)∧(type_of% @Ji7))))):=⟨⟨⟨@Jg5,@JhC⟩,⟨@Ji8,⟨@Jlc,@JhU⟩⟩⟩,⟨⟨@Jgt,@Jid⟩,⟨@Jgy,⟨@JlU,@Ji7⟩⟩⟩⟩
theorem y_81:((type_of% @JhX)∧(type_of% @JgO)):=⟨@JhX,@JgO⟩
theorem y_88:(type_of% @Tryd.underlying88):=@Tryd.underlying88
theorem Jhz:Jg Tryd.prog 7:=Jt Tryd.func7 (by kernel_rfl) (by kernel_rfl)
theorem Jhv:Jg Tryd.prog 8:=Jt Tryd.func8 (by kernel_rfl) (by kernel_rfl)
theorem JkT:Jg Tryd.prog 9:=Jt Tryd.func9 (by kernel_rfl) (by kernel_rfl)
theorem JiV:Jg Tryd.prog 10:=Jt Tryd.func10 (by kernel_rfl) (by kernel_rfl)
theorem Jju:Jg Tryd.prog 11:=Jt Tryd.func11 (by kernel_rfl) (by kernel_rfl)
theorem Jja:Jg Tryd.prog 12:=Jt Tryd.func12 (by kernel_rfl) (by kernel_rfl)
theorem JmO:Jg Tryd.prog 13:=Jt Tryd.func13 (by kernel_rfl) (by kernel_rfl)
theorem Jl8:Jg Tryd.prog 14:=Jt Tryd.func14 (by kernel_rfl) (by kernel_rfl)
theorem Jjv:Jg Tryd.prog 15:=Jt Tryd.func15 (by kernel_rfl) (by kernel_rfl)
theorem Ji3:Jg Tryd.prog 16:=Jt Tryd.func16 (by kernel_rfl) (by kernel_rfl)
theorem Jl4:Jg Tryd.prog 17:=Jt Tryd.func17 (by kernel_rfl) (by kernel_rfl)
theorem Jl6:Jg Tryd.prog 18:=Jt Tryd.func18 (by kernel_rfl) (by kernel_rfl)
theorem JmM:Jg Tryd.prog 19:=Jt Tryd.func19 (by kernel_rfl) (by kernel_rfl)
theorem Jme:Jg Tryd.prog 21:=Jt Tryd.func21 (by kernel_rfl) (by kernel_rfl)
theorem Jjb:Jg Tryd.prog 22:=Jt Tryd.func22 (by kernel_rfl) (by kernel_rfl)
theorem JmK:Jg Tryd.prog 23:=Jt Tryd.func23 (by kernel_rfl) (by kernel_rfl)
theorem Jmi:Jg Tryd.prog 24:=Jt Tryd.func24 (by kernel_rfl) (by kernel_rfl)
theorem Jmh:Jg Tryd.prog 25:=Jt Tryd.func25 (by kernel_rfl) (by kernel_rfl)
theorem JmL:Jg Tryd.prog 26:=Jt Tryd.func26 (by kernel_rfl) (by kernel_rfl)
theorem JmC:Jg Tryd.prog 27:=Jt Tryd.func27 (by kernel_rfl) (by kernel_rfl)
theorem Jmo:Jg Tryd.prog 28:=Jt Tryd.func28 (by kernel_rfl) (by kernel_rfl)
theorem Jl2:Jg Tryd.prog 29:=Jt Tryd.func29 (by kernel_rfl) (by kernel_rfl)
theorem Jmz:Jg Tryd.prog 30:=Jt Tryd.func30 (by kernel_rfl) (by kernel_rfl)
theorem JmE:Jg Tryd.prog 31:=Jt Tryd.func31 (by kernel_rfl) (by kernel_rfl)
theorem Ji4:Jg Tryd.prog 32:=Jt Tryd.func32 (by kernel_rfl) (by kernel_rfl)
theorem Jmx:Jg Tryd.prog 33:=Jt Tryd.func33 (by kernel_rfl) (by kernel_rfl)
theorem JmI:Jg Tryd.prog 38:=Jt Tryd.func38 (by kernel_rfl) (by kernel_rfl)
theorem Jl7:Jg Tryd.prog 39:=Jt Tryd.func39 (by kernel_rfl) (by kernel_rfl)
theorem Jmj:Jg Tryd.prog 40:=Jt Tryd.func40 (by kernel_rfl) (by kernel_rfl)
theorem Jmq:Jg Tryd.prog 48:=Jt Tryd.func48 (by kernel_rfl) (by kernel_rfl)
theorem JiY:Jg Tryd.prog 49:=Jt Tryd.func49 (by kernel_rfl) (by kernel_rfl)
theorem Jmc:Jg Tryd.prog 50:=Jt Tryd.func50 (by kernel_rfl) (by kernel_rfl)
theorem JmN:Jg Tryd.prog 57:=Jt Tryd.func57 (by kernel_rfl) (by kernel_rfl)
theorem Jl3:Jg Tryd.prog 62:=Jt Tryd.func62 (by kernel_rfl) (by kernel_rfl)
theorem Jjl(l:List UInt8):u8s l=List.map dU l:=rfl
theorem mixed:Tryd.prog.follows .mixedOrders=true:=Tryd.checked.mixed
theorem JA{α:Type}(σ:Nat→α)(d:Nat)(x:α)(i:Nat):upd σ d x i=if i=d then x else σ i:=rfl
theorem Jdr{α:Type}(l:List α)(i:Nat):(l.drop i).take (l.length-i)=l.drop i:=List.take_of_length_le (by simp)
theorem Jg7{α β:Type}(f:α→β)(l:List α)(i:Nat):(l.map f).drop i=(l.drop i).map f:=List.map_drop.symm
theorem JgX{α β:Type}(f:α→β)(l:List α)(i:Nat):(l.map f).take i=(l.take i).map f:=List.map_take.symm
theorem Jj{S R:Type}{b:S→Option (S ⊕ R)}{n:Nat}{x:Option R}{o:S ⊕ R}{out:R}(h:inrO x=some o)(hF:Fin' b n o out):x=some out:=by
 obtain⟨r,h1,rfl⟩:=Jk3 h
 cases hF
 exact h1
theorem JL{S R:Type}{b:S→Option (S ⊕ R)}{n:Nat}{s:S}{o:S ⊕ R}{out:R}(h:(some (.inl s):Option (S ⊕ R))=some o)(hF:Fin' b n o out):Fin' b n (.inl s) out:=by
 obtain rfl:=Option.some.inj h
 exact hF
end Go.Proofs.YtfkhlbhjhdpkoaaDoor
