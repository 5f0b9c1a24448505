/- Facts on types,and which functions can be called. -/
import Derived.Test.YtaofbminodhcnaaZaae
import Derived.Test.YtaofbminodhcnaaRows
set_option linter.unusedVariables false
set_option linter.unusedSimpArgs false
namespace Go.Proofs.Ytaofbminodhcnaa
open Go.RowKit
theorem JnK:JQ Try.prog 3=true:=by kernel_rfl
theorem Jo5:Jm Try.prog 3=1:=by kernel_rfl
theorem Jsi:tAgg Try.prog 3=false:=by kernel_rfl
theorem Jrt:tZok Try.prog 3=true:=by kernel_rfl
theorem tZ_3:tZ Try.prog 3=[.int .i64 0]:=by kernel_rfl
theorem JtG:tCS Try.prog 3=[0]:=by kernel_rfl
theorem Jnd:XQ Try.prog 3=8:=by kernel_rfl
theorem Jny:JQ Try.prog 4=true:=by kernel_rfl
theorem Jpq:Jm Try.prog 4=1:=by kernel_rfl
theorem Jri:tAgg Try.prog 4=false:=by kernel_rfl
theorem Jtr:tCS Try.prog 4=[0]:=by kernel_rfl
theorem JnM:JQ Try.prog 9=true:=by kernel_rfl
theorem Jp4:Jm Try.prog 9=1:=by kernel_rfl
theorem JqZ:tAgg Try.prog 9=false:=by kernel_rfl
theorem Jr4:tZok Try.prog 9=true:=by kernel_rfl
theorem tZ_9:tZ Try.prog 9=[str []]:=by kernel_rfl
theorem Jtn:tCS Try.prog 9=[0]:=by kernel_rfl
theorem Jnw:XQ Try.prog 9=16:=by kernel_rfl
theorem JnJ:Jg4 Try.prog 20=true:=by kernel_rfl
theorem Jol:Jex Try.prog 20=4:=by kernel_rfl
theorem JlD:JQ Try.prog 22=true:=by kernel_rfl
theorem Jov:Jm Try.prog 22=1:=by kernel_rfl
theorem Jp3:tAgg Try.prog 22=false:=by kernel_rfl
theorem JrA:tCS Try.prog 22=[11]:=by kernel_rfl
theorem Jl9:JP Try.prog 22=true:=by kernel_rfl
theorem JnA:Jr Try.prog 22=44:=by kernel_rfl
theorem JlC:JeI 22=false:=by kernel_rfl
theorem Jop:JbV 22=false:=by kernel_rfl
theorem Jlv:JQ Try.prog 24=true:=by kernel_rfl
theorem JnY:Jm Try.prog 24=1:=by kernel_rfl
theorem Jpx:tAgg Try.prog 24=false:=by kernel_rfl
theorem JrX:tCS Try.prog 24=[3]:=by kernel_rfl
theorem Jlk:JP Try.prog 24=true:=by kernel_rfl
theorem Jn2:Jr Try.prog 24=26:=by kernel_rfl
theorem JlY:JeI 24=false:=by kernel_rfl
theorem Jn0:JbV 24=true:=by kernel_rfl
theorem Jmj:JQ Try.prog 26=true:=by kernel_rfl
theorem Jnn:Jm Try.prog 26=3:=by kernel_rfl
theorem Jqc:tAgg Try.prog 26=true:=by kernel_rfl
theorem JpF:tZok Try.prog 26=true:=by kernel_rfl
theorem JtA:tZ Try.prog 26=[.int .i64 0,.int .i64 0,.slice none 0 0]:=by kernel_rfl
theorem Jrh:tCS Try.prog 26=[0,0,3]:=by kernel_rfl
theorem JkL:XQ Try.prog 26=40:=by kernel_rfl
theorem Jlw:Jed Try.prog 26=true:=by kernel_rfl
theorem Jhv:JN Try.prog 26 0=true:=by kernel_rfl
theorem JlP:tOff Try.prog 26 0=0:=by kernel_rfl
theorem JlU:tFld Try.prog 26 0=3:=by kernel_rfl
theorem JhU:JN Try.prog 26 1=true:=by kernel_rfl
theorem Jme:tOff Try.prog 26 1=1:=by kernel_rfl
theorem Jmp:tFld Try.prog 26 1=3:=by kernel_rfl
theorem JhQ:JN Try.prog 26 2=true:=by kernel_rfl
theorem Jle:tOff Try.prog 26 2=2:=by kernel_rfl
theorem Jmo:tFld Try.prog 26 2=24:=by kernel_rfl
theorem JkP:JQ Try.prog 27=true:=by kernel_rfl
theorem Jog:Jm Try.prog 27=1:=by kernel_rfl
theorem Jo2:tAgg Try.prog 27=false:=by kernel_rfl
theorem Jso:tCS Try.prog 27=[0]:=by kernel_rfl
theorem JmG:JQ Try.prog 29=true:=by kernel_rfl
theorem Joj:Jm Try.prog 29=3:=by kernel_rfl
theorem Jp2:tAgg Try.prog 29=true:=by kernel_rfl
theorem JpL:tZok Try.prog 29=true:=by kernel_rfl
theorem Jtz:tZ Try.prog 29=[.int .i64 0,.int .i64 0,.int .i64 0]:=by kernel_rfl
theorem Jrk:tCS Try.prog 29=[0,0,0]:=by kernel_rfl
theorem JlR:Jed Try.prog 29=true:=by kernel_rfl
theorem JnZ:JiL Try.prog 29=true:=by kernel_rfl
theorem JmQ:Jih Try.prog 29=[1,1,1]:=by kernel_rfl
theorem JhZ:JN Try.prog 29 0=true:=by kernel_rfl
theorem Jlc:tOff Try.prog 29 0=0:=by kernel_rfl
theorem JmD:tFld Try.prog 29 0=27:=by kernel_rfl
theorem JhP:JN Try.prog 29 1=true:=by kernel_rfl
theorem Jll:tOff Try.prog 29 1=1:=by kernel_rfl
theorem JmR:tFld Try.prog 29 1=3:=by kernel_rfl
theorem Jim:JN Try.prog 29 2=true:=by kernel_rfl
theorem JkX:tOff Try.prog 29 2=2:=by kernel_rfl
theorem JkY:tFld Try.prog 29 2=3:=by kernel_rfl
theorem Jln:JQ Try.prog 32=true:=by kernel_rfl
theorem Jnq:Jm Try.prog 32=1:=by kernel_rfl
theorem JpD:tAgg Try.prog 32=false:=by kernel_rfl
theorem Jp7:tZok Try.prog 32=true:=by kernel_rfl
theorem Jtw:tZ Try.prog 32=[.slice none 0 0]:=by kernel_rfl
theorem JrS:tCS Try.prog 32=[2]:=by kernel_rfl
theorem Jmd:JP Try.prog 32=true:=by kernel_rfl
theorem Jow:Jr Try.prog 32=40:=by kernel_rfl
theorem JlZ:JeI 32=false:=by kernel_rfl
theorem Jn9:JbV 32=true:=by kernel_rfl
theorem JkO:JQ Try.prog 40=true:=by kernel_rfl
theorem JnE:Jm Try.prog 40=2:=by kernel_rfl
theorem JpN:tAgg Try.prog 40=true:=by kernel_rfl
theorem JpK:tZok Try.prog 40=true:=by kernel_rfl
theorem Jtt:tZ Try.prog 40=[.int .i64 0,.int .i64 0]:=by kernel_rfl
theorem Jse:tCS Try.prog 40=[0,0]:=by kernel_rfl
theorem JmL:XQ Try.prog 40=16:=by kernel_rfl
theorem JmP:Jed Try.prog 40=true:=by kernel_rfl
theorem JoA:JiL Try.prog 40=true:=by kernel_rfl
theorem Jla:Jih Try.prog 40=[1,1]:=by kernel_rfl
theorem Jhw:JN Try.prog 40 0=true:=by kernel_rfl
theorem Jk5:tOff Try.prog 40 0=0:=by kernel_rfl
theorem Jmz:tFld Try.prog 40 0=3:=by kernel_rfl
theorem JhM:JN Try.prog 40 1=true:=by kernel_rfl
theorem Jmx:tOff Try.prog 40 1=1:=by kernel_rfl
theorem Jld:tFld Try.prog 40 1=3:=by kernel_rfl
theorem Jlp:JQ Try.prog 41=true:=by kernel_rfl
theorem JnU:Jm Try.prog 41=1:=by kernel_rfl
theorem Jpj:tAgg Try.prog 41=false:=by kernel_rfl
theorem JpT:tZok Try.prog 41=true:=by kernel_rfl
theorem JtE:tZ Try.prog 41=[.slice none 0 0]:=by kernel_rfl
theorem Jsw:tCS Try.prog 41=[1]:=by kernel_rfl
theorem JmE:XQ Try.prog 41=24:=by kernel_rfl
theorem Jml:JP Try.prog 41=true:=by kernel_rfl
theorem Joo:Jr Try.prog 41=9:=by kernel_rfl
theorem JnT:Jm Try.prog 42=1:=by kernel_rfl
theorem Jr8:tCS Try.prog 42=[3]:=by kernel_rfl
theorem JkU:JQ Try.prog 44=true:=by kernel_rfl
theorem Jjc:Jm Try.prog 44=11:=by kernel_rfl
theorem JpU:tAgg Try.prog 44=true:=by kernel_rfl
theorem Jpd:tZok Try.prog 44=true:=by kernel_rfl
theorem Jtq:tZ Try.prog 44=[.int .i64 0,str [],.bool false,.bool false,.int .i64 0,.int .i64 0,.int .i64 0,.int .i64 0,.slice none 0 0,.slice none 0 0,.int .i64 0]:=by kernel_rfl
theorem Jrq:tCS Try.prog 44=[0,0,0,0,0,0,0,0,1,3,0]:=by kernel_rfl
theorem JlT:XQ Try.prog 44=120:=by kernel_rfl
theorem JlV:Jed Try.prog 44=true:=by kernel_rfl
theorem Jil:JN Try.prog 44 0=true:=by kernel_rfl
theorem JkW:tOff Try.prog 44 0=0:=by kernel_rfl
theorem Jlu:tFld Try.prog 44 0=3:=by kernel_rfl
theorem JdR:JN Try.prog 44 1=true:=by kernel_rfl
theorem Jh9:tOff Try.prog 44 1=1:=by kernel_rfl
theorem Jlt:tFld Try.prog 44 1=9:=by kernel_rfl
theorem JhY:JN Try.prog 44 2=true:=by kernel_rfl
theorem Jlf:tOff Try.prog 44 2=2:=by kernel_rfl
theorem Jls:tFld Try.prog 44 2=4:=by kernel_rfl
theorem Jh2:JN Try.prog 44 3=true:=by kernel_rfl
theorem JlB:tOff Try.prog 44 3=3:=by kernel_rfl
theorem Jl8:tFld Try.prog 44 3=4:=by kernel_rfl
theorem JfB:JN Try.prog 44 4=true:=by kernel_rfl
theorem JhH:tOff Try.prog 44 4=4:=by kernel_rfl
theorem JlI:tFld Try.prog 44 4=3:=by kernel_rfl
theorem Jfp:JN Try.prog 44 5=true:=by kernel_rfl
theorem JhT:tOff Try.prog 44 5=5:=by kernel_rfl
theorem Jlx:tFld Try.prog 44 5=3:=by kernel_rfl
theorem JhA:JN Try.prog 44 6=true:=by kernel_rfl
theorem JlM:tOff Try.prog 44 6=6:=by kernel_rfl
theorem Jk6:tFld Try.prog 44 6=3:=by kernel_rfl
theorem Jh1:JN Try.prog 44 7=true:=by kernel_rfl
theorem JlN:tOff Try.prog 44 7=7:=by kernel_rfl
theorem JkV:tFld Try.prog 44 7=3:=by kernel_rfl
theorem JhS:JN Try.prog 44 8=true:=by kernel_rfl
theorem JmB:tOff Try.prog 44 8=8:=by kernel_rfl
theorem Jk8:tFld Try.prog 44 8=41:=by kernel_rfl
theorem Jh0:JN Try.prog 44 9=true:=by kernel_rfl
theorem JlK:tOff Try.prog 44 9=9:=by kernel_rfl
theorem Jmc:tFld Try.prog 44 9=42:=by kernel_rfl
theorem Jhg:JN Try.prog 44 10=true:=by kernel_rfl
theorem JjK:tOff Try.prog 44 10=10:=by kernel_rfl
theorem Jj0:tFld Try.prog 44 10=3:=by kernel_rfl
theorem Jpw:tZok Try.prog 50=true:=by kernel_rfl
theorem JtB:tZ Try.prog 50=[.slice none 0 0,.int .i64 0,.int .i64 0,.int .i64 0,.int .i64 0]:=by kernel_rfl
theorem Jq4:tCS Try.prog 50=[11,0,0,0,0]:=by kernel_rfl
theorem Jl0:Jed Try.prog 50=true:=by kernel_rfl
theorem JhC:JN Try.prog 50 0=true:=by kernel_rfl
theorem Jmk:tOff Try.prog 50 0=0:=by kernel_rfl
theorem JlH:tFld Try.prog 50 0=22:=by kernel_rfl
theorem Jh3:JN Try.prog 50 1=true:=by kernel_rfl
theorem Jl3:tOff Try.prog 50 1=1:=by kernel_rfl
theorem JlS:tFld Try.prog 50 1=29:=by kernel_rfl
theorem JhN:JN Try.prog 50 2=true:=by kernel_rfl
theorem Jmg:tOff Try.prog 50 2=4:=by kernel_rfl
theorem JlL:tFld Try.prog 50 2=3:=by kernel_rfl
theorem Jmq:JQ Try.prog 56=true:=by kernel_rfl
theorem Jnh:Jm Try.prog 56=3:=by kernel_rfl
theorem JpQ:tAgg Try.prog 56=true:=by kernel_rfl
theorem Jqb:tZok Try.prog 56=true:=by kernel_rfl
theorem JtD:tZ Try.prog 56=[.int .i64 0,.int .i64 0,.int .i64 0]:=by kernel_rfl
theorem JsB:tCS Try.prog 56=[0,0,0]:=by kernel_rfl
theorem Jga:JcJ Try.prog 56=true:=by kernel_rfl
theorem JmK:Jed Try.prog 56=true:=by kernel_rfl
theorem JhJ:JN Try.prog 56 0=true:=by kernel_rfl
theorem Jk1:tOff Try.prog 56 0=0:=by kernel_rfl
theorem JlQ:tFld Try.prog 56 0=29:=by kernel_rfl
theorem JlW:JQ Try.prog 57=true:=by kernel_rfl
theorem Jnf:Jm Try.prog 57=1:=by kernel_rfl
theorem Jps:tAgg Try.prog 57=false:=by kernel_rfl
theorem JrD:tCS Try.prog 57=[0]:=by kernel_rfl
theorem Jia:JQ Try.prog 58=true:=by kernel_rfl
theorem JgK:Jm Try.prog 58=1:=by kernel_rfl
theorem Jpb:tAgg Try.prog 58=false:=by kernel_rfl
theorem Jp0:tZok Try.prog 58=true:=by kernel_rfl
theorem Jts:tZ Try.prog 58=[.map none]:=by kernel_rfl
theorem Jq8:tCS Try.prog 58=[0]:=by kernel_rfl
theorem Jmw:XQ Try.prog 58=8:=by kernel_rfl
theorem JbR:JQ Try.prog 59=true:=by kernel_rfl
theorem JgG:Jm Try.prog 59=1:=by kernel_rfl
theorem Jff:tAgg Try.prog 59=false:=by kernel_rfl
theorem JrI:tCS Try.prog 59=[1]:=by kernel_rfl
theorem JfS:JP Try.prog 59=true:=by kernel_rfl
theorem Jnv:Jr Try.prog 59=58:=by kernel_rfl
theorem Jlr:JeI 59=false:=by kernel_rfl
theorem Jnu:JbV 59=false:=by kernel_rfl
theorem JpX:tZok Try.prog 61=true:=by kernel_rfl
theorem JtF:tZ Try.prog 61=[.slice none 0 0,.slice none 0 0,.slice none 0 0]:=by kernel_rfl
theorem Jr1:tCS Try.prog 61=[11,1,2]:=by kernel_rfl
theorem Jlq:Jed Try.prog 61=true:=by kernel_rfl
theorem JhB:JN Try.prog 61 0=true:=by kernel_rfl
theorem Jmi:tOff Try.prog 61 0=0:=by kernel_rfl
theorem JmC:tFld Try.prog 61 0=22:=by kernel_rfl
theorem ZT:JN Try.prog 61 1=true:=by kernel_rfl
theorem Jmf:tOff Try.prog 61 1=1:=by kernel_rfl
theorem JmO:tFld Try.prog 61 1=59:=by kernel_rfl
theorem Jh4:JN Try.prog 61 2=true:=by kernel_rfl
theorem Jl4:tOff Try.prog 61 2=2:=by kernel_rfl
theorem JmH:tFld Try.prog 61 2=32:=by kernel_rfl
theorem JkK:JQ Try.prog 63=true:=by kernel_rfl
theorem Jn3:Jm Try.prog 63=1:=by kernel_rfl
theorem Jpf:tAgg Try.prog 63=false:=by kernel_rfl
theorem Jr5:tCS Try.prog 63=[0]:=by kernel_rfl
theorem Jk4:JQ Try.prog 78=true:=by kernel_rfl
theorem Jnj:Jm Try.prog 78=1:=by kernel_rfl
theorem JpV:tAgg Try.prog 78=false:=by kernel_rfl
theorem Jsk:tCS Try.prog 78=[1]:=by kernel_rfl
theorem Jlz:JP Try.prog 78=true:=by kernel_rfl
theorem Joy:Jr Try.prog 78=3:=by kernel_rfl
theorem JmI:JeI 78=false:=by kernel_rfl
theorem Jou:JbV 78=false:=by kernel_rfl
theorem JkQ:JQ Try.prog 80=true:=by kernel_rfl
theorem JnV:Jm Try.prog 80=2:=by kernel_rfl
theorem Jph:tAgg Try.prog 80=true:=by kernel_rfl
theorem Jp1:tZok Try.prog 80=true:=by kernel_rfl
theorem JtH:tZ Try.prog 80=[str [],.slice none 0 0]:=by kernel_rfl
theorem Jry:tCS Try.prog 80=[0,1]:=by kernel_rfl
theorem JhE:JN Try.prog 80 0=true:=by kernel_rfl
theorem Jl5:tOff Try.prog 80 0=0:=by kernel_rfl
theorem Jk9:tFld Try.prog 80 0=9:=by kernel_rfl
theorem JhO:JN Try.prog 80 1=true:=by kernel_rfl
theorem Jly:tOff Try.prog 80 1=1:=by kernel_rfl
theorem Jmr:tFld Try.prog 80 1=78:=by kernel_rfl
theorem Jj9:JP Try.prog 129=true:=by kernel_rfl
theorem Jk7:Jr Try.prog 129=41:=by kernel_rfl
theorem y_3:((((type_of% @Try.underlying3)∧(type_of% @Jsi))∧((type_of% @Jnd)∧(type_of% @JtG)))∧(((type_of% @JnK)∧(type_of% @Jo5))∧((type_of% @tZ_3)∧(type_of% @Jrt)))):=⟨⟨⟨@Try.underlying3,@Jsi⟩,⟨@Jnd,@JtG⟩⟩,⟨⟨@JnK,@Jo5⟩,⟨@tZ_3,@Jrt⟩⟩⟩
theorem y_4:(((type_of% @Try.underlying4)∧(type_of% @Jri))∧((type_of% @Jtr)∧((type_of% @Jny)∧(type_of% @Jpq)))):=⟨⟨@Try.underlying4,@Jri⟩,⟨@Jtr,⟨@Jny,@Jpq⟩⟩⟩
theorem y_9:((((type_of% @Try.underlying9)∧(type_of% @JqZ))∧((type_of% @Jnw)∧(type_of% @Jtn)))∧(((type_of% @JnM)∧(type_of% @Jp4))∧((type_of% @tZ_9)∧(type_of% @Jr4)))):=⟨⟨⟨@Try.underlying9,@JqZ⟩,⟨@Jnw,@Jtn⟩⟩,⟨⟨@JnM,@Jp4⟩,⟨@tZ_9,@Jr4⟩⟩⟩
theorem y_20:((type_of% @JnJ)∧(type_of% @Jol)):=⟨@JnJ,@Jol⟩
theorem y_22:((((type_of% @JlC)∧(type_of% @Jop))∧((type_of% @Jp3)∧(type_of% @JrA)))∧(((type_of% @JnA)∧(type_of% @JlD))∧((type_of% @Jov)∧(type_of% @Jl9)))):=⟨⟨⟨@JlC,@Jop⟩,⟨@Jp3,@JrA⟩⟩,⟨⟨@JnA,@JlD⟩,⟨@Jov,@Jl9⟩⟩⟩
theorem y_24:((((type_of% @JlY)∧(type_of% @Jn0))∧((type_of% @Jpx)∧(type_of% @JrX)))∧(((type_of% @Jn2)∧(type_of% @Jlv))∧((type_of% @JnY)∧(type_of% @Jlk)))):=⟨⟨⟨@JlY,@Jn0⟩,⟨@Jpx,@JrX⟩⟩,⟨⟨@Jn2,@Jlv⟩,⟨@JnY,@Jlk⟩⟩⟩
theorem y_26:(((((type_of% @Jqc)∧(type_of% @JkL))∧((type_of% @Jrh)∧(type_of% @JlU)))∧(((type_of% @Jmp)∧(type_of% @Jmo))∧((type_of% @Jmj)∧(type_of% @JlP))))∧((((type_of% @Jme)∧(type_of% @Jle))∧((type_of% @Jlw)∧(type_of% @Jnn)))∧(((type_of% @Jhv)∧(type_of% @JhU))∧((type_of% @JhQ)∧((type_of% @JtA)∧(type_of% @JpF)))))):=⟨⟨⟨⟨@Jqc,@JkL⟩,⟨@Jrh,@JlU⟩⟩,⟨⟨@Jmp,@Jmo⟩,⟨@Jmj,@JlP⟩⟩⟩,⟨⟨⟨@Jme,@Jle⟩,⟨@Jlw,@Jnn⟩⟩,⟨⟨@Jhv,@JhU⟩,⟨@JhQ,⟨@JtA,@JpF⟩⟩⟩⟩⟩
theorem y_27:(((type_of% @Jo2)∧(type_of% @Jso))∧((type_of% @JkP)∧(type_of% @Jog))):=⟨⟨@Jo2,@Jso⟩,⟨@JkP,@Jog⟩⟩
theorem y_29:(((((type_of% @Jp2)∧(type_of% @Jrk))∧((type_of% @JnZ)∧(type_of% @JmD)))∧(((type_of% @JmR)∧(type_of% @JkY))∧((type_of% @JmQ)∧((type_of% @JmG)∧(type_of% @Jlc)))))∧((((type_of% @Jll)∧(type_of% @JkX))∧((type_of% @JlR)∧(type_of% @Joj)))∧(((type_of% @JhZ)∧(type_of% @JhP))∧((type_of% @Jim)∧((type_of% @Jtz)∧(type_of% @JpL)))))):=⟨⟨⟨⟨@Jp2,@Jrk⟩,⟨@JnZ,@JmD⟩⟩,⟨⟨@JmR,@JkY⟩,⟨@JmQ,⟨@JmG,@Jlc⟩⟩⟩⟩,⟨⟨⟨@Jll,@JkX⟩,⟨@JlR,@Joj⟩⟩,⟨⟨@JhZ,@JhP⟩,⟨@Jim,⟨@Jtz,@JpL⟩⟩⟩⟩⟩
theorem y_32:((((type_of% @JlZ)∧(type_of% @Jn9))∧((type_of% @JpD)∧((type_of% @JrS)∧(type_of% @Jow))))∧(((type_of% @Jln)∧(type_of% @Jnq))∧((type_of% @Jmd)∧((type_of% @Jtw)∧(type_of% @Jp7))))):=⟨⟨⟨@JlZ,@Jn9⟩,⟨@JpD,⟨@JrS,@Jow⟩⟩⟩,⟨⟨@Jln,@Jnq⟩,⟨@Jmd,⟨@Jtw,@Jp7⟩⟩⟩⟩
theorem y_40:(((((type_of% @JpN)∧(type_of% @JmL))∧((type_of% @Jse)∧(type_of% @JoA)))∧(((type_of% @Jmz)∧(type_of% @Jld))∧((type_of% @Jla)∧(type_of% @JkO))))∧((((type_of% @Jk5)∧(type_of% @Jmx))∧((type_of% @JmP)∧(type_of% @JnE)))∧(((type_of% @Jhw)∧(type_of% @JhM))∧((type_of% @Jtt)∧(type_of% @JpK))))):=⟨⟨⟨⟨@JpN,@JmL⟩,⟨@Jse,@JoA⟩⟩,⟨⟨@Jmz,@Jld⟩,⟨@Jla,@JkO⟩⟩⟩,⟨⟨⟨@Jk5,@Jmx⟩,⟨@JmP,@JnE⟩⟩,⟨⟨@Jhw,@JhM⟩,⟨@Jtt,@JpK⟩⟩⟩⟩
theorem y_41:((((type_of% @Jpj)∧(type_of% @JmE))∧((type_of% @Jsw)∧(type_of% @Joo)))∧(((type_of% @Jlp)∧(type_of% @JnU))∧((type_of% @Jml)∧((type_of% @JtE)∧(type_of% @JpT))))):=⟨⟨⟨@Jpj,@JmE⟩,⟨@Jsw,@Joo⟩⟩,⟨⟨@Jlp,@JnU⟩,⟨@Jml,⟨@JtE,@JpT⟩⟩⟩⟩
theorem y_42:((type_of% @Jr8)∧(type_of% @JnT)):=⟨@Jr8,@JnT⟩
theorem y_44:((((((type_of% @JpU)∧(type_of% @JlT))∧((type_of% @Jrq)∧((type_of% @Jlu)∧(type_of% @Jlt))))∧(((type_of% @Jj0)∧(type_of% @Jls))∧((type_of% @Jl8)∧((type_of% @JlI)∧(type_of% @Jlx)))))∧((((type_of% @Jk6)∧(type_of% @JkV))∧((type_of% @Jk8)∧((type_of% @Jmc)∧(type_of% @JkU))))∧(((type_of% @JkW)∧(type_of% @Jh9))∧((type_of% @JjK)∧((type_of% @Jlf)∧(type_of% @JlB))))))∧(((((type_of% @JhH)∧(type_of% @JhT))∧((type_of% @JlM)∧((type_of% @JlN)∧(type_of% @JmB))))∧(((type_of% @JlK)∧(type_of% @JlV))∧((type_of% @Jjc)∧((type_of% @Jil)∧(type_of% @JdR)))))∧((((type_of% @Jhg)∧(type_of% @JhY))∧((type_of% @Jh2)∧((type_of% @JfB)∧(type_of% @Jfp))))∧(((type_of% @JhA)∧((type_of% @Jh1)∧(type_of% @JhS)))∧((type_of% @Jh0)∧((type_of% @Jtq)∧(type_of% @Jpd))))))):=⟨⟨⟨⟨⟨@JpU,@JlT⟩,⟨@Jrq,⟨@Jlu,@Jlt⟩⟩⟩,⟨⟨@Jj0,@Jls⟩,⟨@Jl8,⟨@JlI,@Jlx⟩⟩⟩⟩,⟨⟨⟨@Jk6,@JkV⟩,⟨@Jk8,⟨@Jmc,@JkU⟩⟩⟩,⟨⟨@JkW,@Jh9⟩,⟨@JjK,⟨@Jlf,@JlB⟩⟩⟩⟩⟩,⟨⟨⟨⟨@JhH,@JhT⟩,⟨@JlM,⟨@JlN,@JmB⟩⟩⟩,⟨⟨@JlK,@JlV⟩,⟨@Jjc,⟨@Jil,@JdR⟩⟩⟩⟩,⟨⟨⟨@Jhg,@JhY⟩,⟨@Jh2,⟨@JfB,@Jfp⟩⟩⟩,⟨⟨@JhA,⟨@Jh1,@JhS⟩⟩,⟨@Jh0,⟨@Jtq,@Jpd⟩⟩⟩⟩⟩⟩
theorem y_50:((((type_of% @Jq4)∧((type_of% @JlH)∧(type_of% @JlS)))∧((type_of% @JlL)∧((type_of% @Jmk)∧(type_of% @Jl3))))∧(((type_of% @Jmg)∧((type_of% @Jl0)∧(type_of% @JhC)))∧(((type_of% @Jh3)∧(type_of% @JhN))∧((type_of% @JtB)∧(type_of% @Jpw))))):=⟨⟨⟨@Jq4,⟨@JlH,@JlS⟩⟩,⟨@JlL,⟨@Jmk,@Jl3⟩⟩⟩,⟨⟨@Jmg,⟨@Jl0,@JhC⟩⟩,⟨⟨@Jh3,@JhN⟩,⟨@JtB,@Jpw⟩⟩⟩⟩
theorem y_56:((((type_of% @JpQ)∧(type_of% @JsB))∧((type_of% @JlQ)∧((type_of% @Jmq)∧(type_of% @Jga))))∧(((type_of% @Jk1)∧((type_of% @JmK)∧(type_of% @Jnh)))∧((type_of% @JhJ)∧((type_of% @JtD)∧(type_of% @Jqb))))):=⟨⟨⟨@JpQ,@JsB⟩,⟨@JlQ,⟨@Jmq,@Jga⟩⟩⟩,⟨⟨@Jk1,⟨@JmK,@Jnh⟩⟩,⟨@JhJ,⟨@JtD,@Jqb⟩⟩⟩⟩
theorem y_57:(((type_of% @Jps)∧(type_of% @JrD))∧((type_of% @JlW)∧(type_of% @Jnf))):=⟨⟨@Jps,@JrD⟩,⟨@JlW,@Jnf⟩⟩
theorem y_58:(((type_of% @Jpb)∧((type_of% @Jmw)∧(type_of% @Jq8)))∧(((type_of% @Jia)∧(type_of% @JgK))∧((type_of% @Jts)∧(type_of% @Jp0)))):=⟨⟨@Jpb,⟨@Jmw,@Jq8⟩⟩,⟨⟨@Jia,@JgK⟩,⟨@Jts,@Jp0⟩⟩⟩
theorem y_59:((((type_of% @Jlr)∧(type_of% @Jnu))∧((type_of% @Jff)∧(type_of% @JrI)))∧(((type_of% @Jnv)∧(type_of% @JbR))∧((type_of% @JgG)∧(type_of% @JfS)))):=⟨⟨⟨@Jlr,@Jnu⟩,⟨@Jff,@JrI⟩⟩,⟨⟨@Jnv,@JbR⟩,⟨@JgG,@JfS⟩⟩⟩
theorem y_61:((((type_of% @Jr1)∧((type_of% @JmC)∧(type_of% @JmO)))∧((type_of% @JmH)∧((type_of% @Jmi)∧(type_of% @Jmf))))∧(((type_of% @Jl4)∧((type_of% @Jlq)∧(type_of% @JhB)))∧(((type_of% @ZT)∧(type_of% @Jh4))∧((type_of% @JtF)∧(type_of% @JpX))))):=⟨⟨⟨@Jr1,⟨@JmC,@JmO⟩⟩,⟨@JmH,⟨@Jmi,@Jmf⟩⟩⟩,⟨⟨@Jl4,⟨@Jlq,@JhB⟩⟩,⟨⟨@ZT,@Jh4⟩,⟨@JtF,@JpX⟩⟩⟩⟩
theorem y_63:(((type_of% @Jpf)∧(type_of% @Jr5))∧((type_of% @JkK)∧(type_of% @Jn3))):=⟨⟨@Jpf,@Jr5⟩,⟨@JkK,@Jn3⟩⟩
theorem y_78:((((type_of% @JmI)∧(type_of% @Jou))∧((type_of% @JpV)∧(type_of% @Jsk)))∧(((type_of% @Joy)∧(type_of% @Jk4))∧((type_of% @Jnj)∧(type_of% @Jlz)))):=⟨⟨⟨@JmI,@Jou⟩,⟨@JpV,@Jsk⟩⟩,⟨⟨@Joy,@Jk4⟩,⟨@Jnj,@Jlz⟩⟩⟩
theorem y_80:((((type_of% @Jph)∧((type_of% @Jry)∧(type_of% @Jk9)))∧((type_of% @Jmr)∧((type_of% @JkQ)∧(type_of% @Jl5))))∧(((type_of% @Jly)∧((type_of% @JnV)∧(type_of% @JhE)))∧((type_of% @JhO)∧((type_of% @JtH)∧(type_of% @Jp1))))):=⟨⟨⟨@Jph,⟨@Jry,@Jk9⟩⟩,⟨@Jmr,⟨@JkQ,@Jl5⟩⟩⟩,⟨⟨@Jly,⟨@JnV,@JhE⟩⟩,⟨@JhO,⟨@JtH,@Jp1⟩⟩⟩⟩
theorem y_96:(type_of% @Try.underlying96):=@Try.underlying96
theorem Jto:((type_of% @Jk7)∧(type_of% @Jj9)):=⟨@Jk7,@Jj9⟩
theorem Jr9:Jf Try.prog 6:=Ji Try.func6 (by kernel_rfl) (by kernel_rfl)
theorem JrO:Jf Try.prog 7:=Ji Try.func7 (by kernel_rfl) (by kernel_rfl)
theorem Ju7:Jf Try.prog 8:=Ji Try.func8 (by kernel_rfl) (by kernel_rfl)
theorem Jpl:Jf Try.prog 11:=Ji Try.func11 (by kernel_rfl) (by kernel_rfl)
theorem JuG:Jf Try.prog 13:=Ji Try.func13 (by kernel_rfl) (by kernel_rfl)
theorem JtU:Jf Try.prog 14:=Ji Try.func14 (by kernel_rfl) (by kernel_rfl)
theorem JuT:Jf Try.prog 15:=Ji Try.func15 (by kernel_rfl) (by kernel_rfl)
theorem Juk:Jf Try.prog 16:=Ji Try.func16 (by kernel_rfl) (by kernel_rfl)
theorem Juc:Jf Try.prog 17:=Ji Try.func17 (by kernel_rfl) (by kernel_rfl)
theorem Jpv:Jf Try.prog 18:=Ji Try.func18 (by kernel_rfl) (by kernel_rfl)
theorem Jpn:Jf Try.prog 19:=Ji Try.func19 (by kernel_rfl) (by kernel_rfl)
theorem JtR:Jf Try.prog 20:=Ji Try.func20 (by kernel_rfl) (by kernel_rfl)
theorem Jis:Jf Try.prog 21:=Ji Try.func21 (by kernel_rfl) (by kernel_rfl)
theorem Jo4:Jf Try.prog 22:=Ji Try.func22 (by kernel_rfl) (by kernel_rfl)
theorem JuF:Jf Try.prog 24:=Ji Try.func24 (by kernel_rfl) (by kernel_rfl)
theorem Juw:Jf Try.prog 25:=Ji Try.func25 (by kernel_rfl) (by kernel_rfl)
theorem JiI:Jf Try.prog 26:=Ji Try.func26 (by kernel_rfl) (by kernel_rfl)
theorem JuB:Jf Try.prog 27:=Ji Try.func27 (by kernel_rfl) (by kernel_rfl)
theorem JuS:Jf Try.prog 28:=Ji Try.func28 (by kernel_rfl) (by kernel_rfl)
theorem Juj:Jf Try.prog 29:=Ji Try.func29 (by kernel_rfl) (by kernel_rfl)
theorem JuJ:Jf Try.prog 30:=Ji Try.func30 (by kernel_rfl) (by kernel_rfl)
theorem JuX:Jf Try.prog 31:=Ji Try.func31 (by kernel_rfl) (by kernel_rfl)
theorem JtO:Jf Try.prog 32:=Ji Try.func32 (by kernel_rfl) (by kernel_rfl)
theorem JuZ:Jf Try.prog 33:=Ji Try.func33 (by kernel_rfl) (by kernel_rfl)
theorem Jug:Jf Try.prog 34:=Ji Try.func34 (by kernel_rfl) (by kernel_rfl)
theorem JtZ:Jf Try.prog 35:=Ji Try.func35 (by kernel_rfl) (by kernel_rfl)
theorem Juo:Jf Try.prog 36:=Ji Try.func36 (by kernel_rfl) (by kernel_rfl)
theorem JpH:Jf Try.prog 37:=Ji Try.func37 (by kernel_rfl) (by kernel_rfl)
theorem Jt5:Jf Try.prog 38:=Ji Try.func38 (by kernel_rfl) (by kernel_rfl)
theorem JuK:Jf Try.prog 39:=Ji Try.func39 (by kernel_rfl) (by kernel_rfl)
theorem Jpk:Jf Try.prog 40:=Ji Try.func40 (by kernel_rfl) (by kernel_rfl)
theorem JiA:Jf Try.prog 41:=Ji Try.func41 (by kernel_rfl) (by kernel_rfl)
theorem Jo8:Jf Try.prog 42:=Ji Try.func42 (by kernel_rfl) (by kernel_rfl)
theorem JpP:Jf Try.prog 43:=Ji Try.func43 (by kernel_rfl) (by kernel_rfl)
theorem Jue:Jf Try.prog 44:=Ji Try.func44 (by kernel_rfl) (by kernel_rfl)
theorem Juh:Jf Try.prog 45:=Ji Try.func45 (by kernel_rfl) (by kernel_rfl)
theorem JtK:Jf Try.prog 46:=Ji Try.func46 (by kernel_rfl) (by kernel_rfl)
theorem Ju1:Jf Try.prog 47:=Ji Try.func47 (by kernel_rfl) (by kernel_rfl)
theorem JoZ:Jf Try.prog 51:=Ji Try.func51 (by kernel_rfl) (by kernel_rfl)
theorem JpA:Jf Try.prog 52:=Ji Try.func52 (by kernel_rfl) (by kernel_rfl)
theorem JuC:Jf Try.prog 53:=Ji Try.func53 (by kernel_rfl) (by kernel_rfl)
theorem Juf:Jf Try.prog 54:=Ji Try.func54 (by kernel_rfl) (by kernel_rfl)
theorem Juq:Jf Try.prog 55:=Ji Try.func55 (by kernel_rfl) (by kernel_rfl)
theorem JuD:Jf Try.prog 56:=Ji Try.func56 (by kernel_rfl) (by kernel_rfl)
theorem Jt2:Jf Try.prog 57:=Ji Try.func57 (by kernel_rfl) (by kernel_rfl)
theorem Jum:Jf Try.prog 58:=Ji Try.func58 (by kernel_rfl) (by kernel_rfl)
theorem JpC:Jf Try.prog 59:=Ji Try.func59 (by kernel_rfl) (by kernel_rfl)
theorem JtY:Jf Try.prog 60:=Ji Try.func60 (by kernel_rfl) (by kernel_rfl)
theorem JtM:Jf Try.prog 61:=Ji Try.func61 (by kernel_rfl) (by kernel_rfl)
theorem Jpu:Jf Try.prog 62:=Ji Try.func62 (by kernel_rfl) (by kernel_rfl)
theorem JuE:Jf Try.prog 63:=Ji Try.func63 (by kernel_rfl) (by kernel_rfl)
theorem Jur:Jf Try.prog 64:=Ji Try.func64 (by kernel_rfl) (by kernel_rfl)
theorem JtP:Jf Try.prog 67:=Ji Try.func67 (by kernel_rfl) (by kernel_rfl)
theorem Jt3:Jf Try.prog 69:=Ji Try.func69 (by kernel_rfl) (by kernel_rfl)
theorem Jud:Jf Try.prog 76:=Ji Try.func76 (by kernel_rfl) (by kernel_rfl)
theorem JuH:Jf Try.prog 77:=Ji Try.func77 (by kernel_rfl) (by kernel_rfl)
theorem Jp5:Jf Try.prog 78:=Ji Try.func78 (by kernel_rfl) (by kernel_rfl)
theorem Jus:Jf Try.prog 79:=Ji Try.func79 (by kernel_rfl) (by kernel_rfl)
theorem JtL:Jf Try.prog 83:=Ji Try.func83 (by kernel_rfl) (by kernel_rfl)
theorem JuM:Jf Try.prog 84:=Ji Try.func84 (by kernel_rfl) (by kernel_rfl)
theorem Jp9:Jf Try.prog 85:=Ji Try.func85 (by kernel_rfl) (by kernel_rfl)
theorem JuI:Jf Try.prog 86:=Ji Try.func86 (by kernel_rfl) (by kernel_rfl)
theorem JtW:Jf Try.prog 87:=Ji Try.func87 (by kernel_rfl) (by kernel_rfl)
theorem Jpi(l:List UInt8):u8s l=List.map dU l:=rfl
theorem mixed:Try.prog.follows .mixedOrders=true:=Try.checked.mixed
theorem Jj{α:Type}(σ:Nat→α)(d:Nat)(x:α)(i:Nat):upd σ d x i=if i=d then x else σ i:=rfl
theorem Jhe{α:Type}(l:List α)(i:Nat):(l.drop i).take (l.length-i)=l.drop i:=List.take_of_length_le (by simp)
theorem JlX{α β:Type}(f:α→β)(l:List α)(i:Nat):(l.map f).drop i=(l.drop i).map f:=List.map_drop.symm
theorem JlE{α β:Type}(f:α→β)(l:List α)(i:Nat):(l.map f).take i=(l.take i).map f:=List.map_take.symm
theorem Jq{S R:Type}{b:S→Option (S ⊕ R)}{n:Nat}{x:Option R}{o:S ⊕ R}{out:R}(h:inrO x=some o)(hF:Fin' b n o out):x=some out:=by
 obtain⟨r,h1,rfl⟩:=Jsp h
 cases hF
 exact h1
theorem J3{S R:Type}{b:S→Option (S ⊕ R)}{n:Nat}{s:S}{o:S ⊕ R}{out:R}(h:(some (.inl s):Option (S ⊕ R))=some o)(hF:Fin' b n o out):Fin' b n (.inl s) out:=by
 obtain rfl:=Option.some.inj h
 exact hF
end Go.Proofs.Ytaofbminodhcnaa
